/- What each Go function that these laws use answers: as a Lean function, with the proof that the machine's call comes to it. Written by a program of this session (xprint.py). -/
import Derived.Test.YtaielfghgmghgaaXx0
import Derived.Test.YtaielfghgmghgaaXx2
namespace Go.Proofs.Ytaielfghgmghgaa.X
open Go.RowKit Go.Proofs.YtaielfghgmghgaaW.PrintWords Go.Proofs.YtaielfghgmghgaaW.PrintLast Go.Proofs.YtaielfghgmghgaaW.PrintMore
attribute [local go_sem] max2_int min2_int max_two min_two max_three min_three max_four min_four   -- for this text's walks alone
set_option linter.unusedVariables false
set_option linter.unusedSimpArgs false

/-! ### format_Size: function 20 -/
def format_Size.f (a0_0 : Int) (a0_1 : Int) (a0_2 : Bool) (a0_3 : Bool) (a0_4 : Int) (a0_5 : Int) (a0_6 : Int) (a0_7 : Int) (a0_8 : Int) (a0_9 : Int) : Option (Int) := (format_Valid.f a0_0 a0_1 a0_2 a0_3 a0_4 a0_5 a0_6 a0_7 a0_8 a0_9).bind fun t322 => (if t322 = true then (some (wrap64 (Int.tdiv a0_0 8))) else (some 0))
set_option maxHeartbeats 8000000 in
set_option maxRecDepth 100000 in
theorem format_Size.calls (a0_0 : Int) (a0_1 : Int) (a0_2 : Bool) (a0_3 : Bool) (a0_4 : Int) (a0_5 : Int) (a0_6 : Int) (a0_7 : Int) (a0_8 : Int) (a0_9 : Int) (r : Int) (w : World) (h : format_Size.f a0_0 a0_1 a0_2 a0_3 a0_4 a0_5 a0_6 a0_7 a0_8 a0_9 = some r) :
    Calls Try.prog 20 #[.agg #[.int .i64 a0_0, .int .i64 a0_1, .bool a0_2, .bool a0_3, .int .i64 a0_4, .int .i64 a0_5, .int .i64 a0_6, .int .i64 a0_7, .int .i64 a0_8, .int .i64 a0_9]] w fun e w' => e = .returned (.int .i64 r) ∧ Below w.heap.size w w' := by
  have hu23 := Try.underlying23
  have HB := Aside0.mk (Below.refl w.heap.size w)
  have H : ((format_Valid.f a0_0 a0_1 a0_2 a0_3 a0_4 a0_5 a0_6 a0_7 a0_8 a0_9).bind fun t322 => (if t322 = true then (some (wrap64 (Int.tdiv a0_0 8))) else (some 0))) = some r := h
  clear h
  replace H := Option.bind_eq_some_iff.mp H
  obtain ⟨t322, A20, H⟩ := H
  replace H : (if t322 = true then (some (wrap64 (Int.tdiv a0_0 8))) else (some 0)) = some r := H
  have A2 := Aside0.mk A20
  clear A20
  by_cases c3 : t322 = true
  · subst c3
    have H1 : (some (wrap64 (Int.tdiv a0_0 8))) = some r := by rw [if_pos rfl] at H; exact H
    clear H
    have H := H1
    clear H1
    obtain rfl := Option.some.inj H
    go_enter Try.func20, Try.ntmps20
    go_wp2_with (first | ((with_reducible refine gate_dst (N := 1) rfl ?_); refine box_event ?hg (N := 1) ?hd (cs := #[.int .i64 a0_0, .int .i64 a0_1, .bool a0_2, .bool a0_3, .int .i64 a0_4, .int .i64 a0_5, .int .i64 a0_6, .int .i64 a0_7, .int .i64 a0_8, .int .i64 a0_9]) (t := 23) ?hr ?_; (case hd => rfl); (case hg => rfl); (case hr => first | (go_simp; done) | (go_simp; rfl)); intro gb321 hg w4 hbox hb; have n0_ := Aside0.mk (below_step (by repeat (first | (with_reducible first | exact HB.out | apply below_alloc | apply pw_below_drewN | apply below_drew1) | exact HB.out)) hb); have n1_ := Aside0.mk (hbox); have n2_ := Aside0.mk ((by rw [hg]; exact (below_size (by repeat (first | (with_reducible first | exact HB.out | apply below_alloc | apply pw_below_drewN | apply below_drew1) | exact HB.out))) : w.heap.size ≤ gb321)); have n3_ := Aside0.mk ((by rw [hg]; exact (below_size (by repeat (first | (with_reducible first | exact HB.out | apply below_alloc | apply pw_below_drewN | apply below_drew1) | exact HB.out))) : w.heap.size ≤ gb321)); clear HB; have HB := n0_; have BK321 := n1_; have GW321 := n2_; have GE321 := n3_; clear n0_ n1_ n2_ n3_; clear hb hbox hg; have hcz5_0 : w4.cell? ⟨gb321, 0, none⟩ = some (.int .i64 a0_0) := (blk_cell BK321.out 0).trans rfl; have hcz5_1 : w4.cell? ⟨gb321, 1, none⟩ = some (.int .i64 a0_1) := (blk_cell BK321.out 1).trans rfl; have hcz5_2 : w4.cell? ⟨gb321, 2, none⟩ = some (.bool a0_2) := (blk_cell BK321.out 2).trans rfl; have hcz5_3 : w4.cell? ⟨gb321, 3, none⟩ = some (.bool a0_3) := (blk_cell BK321.out 3).trans rfl; have hcz5_4 : w4.cell? ⟨gb321, 4, none⟩ = some (.int .i64 a0_4) := (blk_cell BK321.out 4).trans rfl; have hcz5_5 : w4.cell? ⟨gb321, 5, none⟩ = some (.int .i64 a0_5) := (blk_cell BK321.out 5).trans rfl; have hcz5_6 : w4.cell? ⟨gb321, 6, none⟩ = some (.int .i64 a0_6) := (blk_cell BK321.out 6).trans rfl; have hcz5_7 : w4.cell? ⟨gb321, 7, none⟩ = some (.int .i64 a0_7) := (blk_cell BK321.out 7).trans rfl; have hcz5_8 : w4.cell? ⟨gb321, 8, none⟩ = some (.int .i64 a0_8) := (blk_cell BK321.out 8).trans rfl; have hcz5_9 : w4.cell? ⟨gb321, 9, none⟩ = some (.int .i64 a0_9) := (blk_cell BK321.out 9).trans rfl; have hfz5_0 := blk_frozen BK321.out 0; have hfz5_1 := blk_frozen BK321.out 1; have hfz5_2 := blk_frozen BK321.out 2; have hfz5_3 := blk_frozen BK321.out 3; have hfz5_4 := blk_frozen BK321.out 4; have hfz5_5 := blk_frozen BK321.out 5; have hfz5_6 := blk_frozen BK321.out 6; have hfz5_7 := blk_frozen BK321.out 7; have hfz5_8 := blk_frozen BK321.out 8; have hfz5_9 := blk_frozen BK321.out 9) | ((with_reducible refine gate_callee (f := 11) rfl ?_); refine goesL_ (some 4) rfl rfl Try.func11 (by kernel_rfl) rfl #[.agg #[.int .i64 a0_0, .int .i64 a0_1, .bool a0_2, .bool a0_3, .int .i64 a0_4, .int .i64 a0_5, .int .i64 a0_6, .int .i64 a0_7, .int .i64 a0_8, .int .i64 a0_9]] rfl (by (try simp only [List.map_toArray, List.map_cons, List.map_nil]); first | done | rfl | (simp only [List.length_drop, List.length_take]; rfl)) ?_; (with_reducible refine (format_Valid.calls a0_0 a0_1 a0_2 a0_3 a0_4 a0_5 a0_6 a0_7 a0_8 a0_9 true _ A2.out).mono ?_); rintro e w6 ⟨rfl, hb⟩; refine ⟨_, rfl, ?_⟩; have n0_ := Aside0.mk (blk_below (g := gb321) (o := .cells #[.int .i64 a0_0, .int .i64 a0_1, .bool a0_2, .bool a0_3, .int .i64 a0_4, .int .i64 a0_5, .int .i64 a0_6, .int .i64 a0_7, .int .i64 a0_8, .int .i64 a0_9] 23 (0, 0)) (by (with_reducible repeat (first | refine blk_drewN ?_ _ | refine blk_drew ?_ | refine blk_alloc ?_ _)); exact BK321.out) hb); have n1_ := Aside0.mk (below_step (by repeat (first | (with_reducible first | exact HB.out | apply below_alloc | apply pw_below_drewN | apply below_drew1 | refine below_set ?_ GE321.out) | exact HB.out)) hb); clear BK321; clear HB; have BK321 := n0_; have HB := n1_; clear n0_ n1_; (try clear hb); (try clear hb2); (try clear hk); (try clear hi); have hcz7_0 : w6.cell? ⟨gb321, 0, none⟩ = some (.int .i64 a0_0) := (blk_cell BK321.out 0).trans rfl; have hcz7_1 : w6.cell? ⟨gb321, 1, none⟩ = some (.int .i64 a0_1) := (blk_cell BK321.out 1).trans rfl; have hcz7_2 : w6.cell? ⟨gb321, 2, none⟩ = some (.bool a0_2) := (blk_cell BK321.out 2).trans rfl; have hcz7_3 : w6.cell? ⟨gb321, 3, none⟩ = some (.bool a0_3) := (blk_cell BK321.out 3).trans rfl; have hcz7_4 : w6.cell? ⟨gb321, 4, none⟩ = some (.int .i64 a0_4) := (blk_cell BK321.out 4).trans rfl; have hcz7_5 : w6.cell? ⟨gb321, 5, none⟩ = some (.int .i64 a0_5) := (blk_cell BK321.out 5).trans rfl; have hcz7_6 : w6.cell? ⟨gb321, 6, none⟩ = some (.int .i64 a0_6) := (blk_cell BK321.out 6).trans rfl; have hcz7_7 : w6.cell? ⟨gb321, 7, none⟩ = some (.int .i64 a0_7) := (blk_cell BK321.out 7).trans rfl; have hcz7_8 : w6.cell? ⟨gb321, 8, none⟩ = some (.int .i64 a0_8) := (blk_cell BK321.out 8).trans rfl; have hcz7_9 : w6.cell? ⟨gb321, 9, none⟩ = some (.int .i64 a0_9) := (blk_cell BK321.out 9).trans rfl; have hfz7_0 := blk_frozen BK321.out 0; have hfz7_1 := blk_frozen BK321.out 1; have hfz7_2 := blk_frozen BK321.out 2; have hfz7_3 := blk_frozen BK321.out 3; have hfz7_4 := blk_frozen BK321.out 4; have hfz7_5 := blk_frozen BK321.out 5; have hfz7_6 := blk_frozen BK321.out 6; have hfz7_7 := blk_frozen BK321.out 7; have hfz7_8 := blk_frozen BK321.out 8; have hfz7_9 := blk_frozen BK321.out 9))
    go_ret
    exact ⟨by first | rfl | (simp [errW_none, errW_some] <;> rfl) | (simp [*, errW_none, errW_some] <;> rfl), by repeat (first | (with_reducible first | exact HB.out | apply below_alloc | apply pw_below_drewN | apply below_drew1 | refine below_set ?_ GE321.out) | exact HB.out)⟩
  · replace c3 := Bool.eq_false_iff.mpr c3
    subst c3
    have H1 : (some 0) = some r := by rw [if_neg (show ¬ (false = true) by decide)] at H; exact H
    clear H
    have H := H1
    clear H1
    obtain rfl := Option.some.inj H
    go_enter Try.func20, Try.ntmps20
    go_wp2_with (first | ((with_reducible refine gate_dst (N := 1) rfl ?_); refine box_event ?hg (N := 1) ?hd (cs := #[.int .i64 a0_0, .int .i64 a0_1, .bool a0_2, .bool a0_3, .int .i64 a0_4, .int .i64 a0_5, .int .i64 a0_6, .int .i64 a0_7, .int .i64 a0_8, .int .i64 a0_9]) (t := 23) ?hr ?_; (case hd => rfl); (case hg => rfl); (case hr => first | (go_simp; done) | (go_simp; rfl)); intro gb321 hg w8 hbox hb; have n0_ := Aside0.mk (below_step (by repeat (first | (with_reducible first | exact HB.out | apply below_alloc | apply pw_below_drewN | apply below_drew1) | exact HB.out)) hb); have n1_ := Aside0.mk (hbox); have n2_ := Aside0.mk ((by rw [hg]; exact (below_size (by repeat (first | (with_reducible first | exact HB.out | apply below_alloc | apply pw_below_drewN | apply below_drew1) | exact HB.out))) : w.heap.size ≤ gb321)); have n3_ := Aside0.mk ((by rw [hg]; exact (below_size (by repeat (first | (with_reducible first | exact HB.out | apply below_alloc | apply pw_below_drewN | apply below_drew1) | exact HB.out))) : w.heap.size ≤ gb321)); clear HB; have HB := n0_; have BK321 := n1_; have GW321 := n2_; have GE321 := n3_; clear n0_ n1_ n2_ n3_; clear hb hbox hg; have hcz9_0 : w8.cell? ⟨gb321, 0, none⟩ = some (.int .i64 a0_0) := (blk_cell BK321.out 0).trans rfl; have hcz9_1 : w8.cell? ⟨gb321, 1, none⟩ = some (.int .i64 a0_1) := (blk_cell BK321.out 1).trans rfl; have hcz9_2 : w8.cell? ⟨gb321, 2, none⟩ = some (.bool a0_2) := (blk_cell BK321.out 2).trans rfl; have hcz9_3 : w8.cell? ⟨gb321, 3, none⟩ = some (.bool a0_3) := (blk_cell BK321.out 3).trans rfl; have hcz9_4 : w8.cell? ⟨gb321, 4, none⟩ = some (.int .i64 a0_4) := (blk_cell BK321.out 4).trans rfl; have hcz9_5 : w8.cell? ⟨gb321, 5, none⟩ = some (.int .i64 a0_5) := (blk_cell BK321.out 5).trans rfl; have hcz9_6 : w8.cell? ⟨gb321, 6, none⟩ = some (.int .i64 a0_6) := (blk_cell BK321.out 6).trans rfl; have hcz9_7 : w8.cell? ⟨gb321, 7, none⟩ = some (.int .i64 a0_7) := (blk_cell BK321.out 7).trans rfl; have hcz9_8 : w8.cell? ⟨gb321, 8, none⟩ = some (.int .i64 a0_8) := (blk_cell BK321.out 8).trans rfl; have hcz9_9 : w8.cell? ⟨gb321, 9, none⟩ = some (.int .i64 a0_9) := (blk_cell BK321.out 9).trans rfl; have hfz9_0 := blk_frozen BK321.out 0; have hfz9_1 := blk_frozen BK321.out 1; have hfz9_2 := blk_frozen BK321.out 2; have hfz9_3 := blk_frozen BK321.out 3; have hfz9_4 := blk_frozen BK321.out 4; have hfz9_5 := blk_frozen BK321.out 5; have hfz9_6 := blk_frozen BK321.out 6; have hfz9_7 := blk_frozen BK321.out 7; have hfz9_8 := blk_frozen BK321.out 8; have hfz9_9 := blk_frozen BK321.out 9) | ((with_reducible refine gate_callee (f := 11) rfl ?_); refine goesL_ (some 4) rfl rfl Try.func11 (by kernel_rfl) rfl #[.agg #[.int .i64 a0_0, .int .i64 a0_1, .bool a0_2, .bool a0_3, .int .i64 a0_4, .int .i64 a0_5, .int .i64 a0_6, .int .i64 a0_7, .int .i64 a0_8, .int .i64 a0_9]] rfl (by (try simp only [List.map_toArray, List.map_cons, List.map_nil]); first | done | rfl | (simp only [List.length_drop, List.length_take]; rfl)) ?_; (with_reducible refine (format_Valid.calls a0_0 a0_1 a0_2 a0_3 a0_4 a0_5 a0_6 a0_7 a0_8 a0_9 false _ A2.out).mono ?_); rintro e w10 ⟨rfl, hb⟩; refine ⟨_, rfl, ?_⟩; have n0_ := Aside0.mk (blk_below (g := gb321) (o := .cells #[.int .i64 a0_0, .int .i64 a0_1, .bool a0_2, .bool a0_3, .int .i64 a0_4, .int .i64 a0_5, .int .i64 a0_6, .int .i64 a0_7, .int .i64 a0_8, .int .i64 a0_9] 23 (0, 0)) (by (with_reducible repeat (first | refine blk_drewN ?_ _ | refine blk_drew ?_ | refine blk_alloc ?_ _)); exact BK321.out) hb); have n1_ := Aside0.mk (below_step (by repeat (first | (with_reducible first | exact HB.out | apply below_alloc | apply pw_below_drewN | apply below_drew1 | refine below_set ?_ GE321.out) | exact HB.out)) hb); clear BK321; clear HB; have BK321 := n0_; have HB := n1_; clear n0_ n1_; (try clear hb); (try clear hb2); (try clear hk); (try clear hi)))
    go_ret
    exact ⟨by first | rfl | (simp [errW_none, errW_some] <;> rfl) | (simp [*, errW_none, errW_some] <;> rfl), by repeat (first | (with_reducible first | exact HB.out | apply below_alloc | apply pw_below_drewN | apply below_drew1 | refine below_set ?_ GE321.out) | exact HB.out)⟩

/-! ### miradorref13_down: function 45 -/
def miradorref13_down.f (a0 : Int) (a1 : Int) (a2 : Int) : Option (Int) := if 0 ≤ a2 then (some (shl .i64 (wrap64 (Int.tdiv (wrap64 ((wrap64 (a0 * a1)) + 127)) 255)) a2)) else (none)
set_option maxHeartbeats 8000000 in
set_option maxRecDepth 100000 in
theorem miradorref13_down.calls (a0 : Int) (a1 : Int) (a2 : Int) (r : Int) (w : World) (h : miradorref13_down.f a0 a1 a2 = some r) :
    Calls Try.prog 45 #[.int .i64 a0, .int .i64 a1, .int .i64 a2] w fun e w' => e = .returned (.int .i64 r) ∧ Drawn0 w w' := by
  have H : (if 0 ≤ a2 then (some (shl .i64 (wrap64 (Int.tdiv (wrap64 ((wrap64 (a0 * a1)) + 127)) 255)) a2)) else (none)) = some r := h
  clear h
  by_cases c4 : 0 ≤ a2
  · rw [if_pos c4] at H
    have c4b0 := eq_true c4
    have c4b1 : decide (0 ≤ a2) = true := decide_eq_true c4
    clear c4
    obtain ⟨ji5, hji5⟩ : ∃ j_ : Int, (shl .i64 (wrap64 (Int.tdiv (wrap64 ((wrap64 (a0 * a1)) + 127)) 255)) a2) = j_ := ⟨_, rfl⟩
    replace H : (some ji5) = some r := by first | (rw [hji5] at H; exact H) | (simp only [hji5] at H ⊢; exact H)
    have hji5_ : (IntKind.i64.wrap ((wrap64 (Int.tdiv (wrap64 ((wrap64 (a0 * a1)) + 127)) 255)) * 2 ^ min a2.toNat 64)) = ji5 := hji5
    have hji5z : a2 ≤ 64 → (IntKind.i64.wrap ((wrap64 (Int.tdiv (wrap64 ((wrap64 (a0 * a1)) + 127)) 255)) * 2 ^ a2.toNat)) = ji5 := shl_small hji5
    have hji5y : (wrap64 ((wrap64 (Int.tdiv (wrap64 ((wrap64 (a0 * a1)) + 127)) 255)) * 2 ^ min a2.toNat 64)) = ji5 := (i64_w _).symm.trans hji5_
    have hji5x : a2 ≤ 64 → (wrap64 ((wrap64 (Int.tdiv (wrap64 ((wrap64 (a0 * a1)) + 127)) 255)) * 2 ^ a2.toNat)) = ji5 := fun h_ => (i64_w _).symm.trans (hji5z h_)
    obtain rfl := Option.some.inj H
    go_enter Try.func45, Try.ntmps45
    go_wp2
    go_ret
    exact ⟨by first | rfl | (simp; done) | (simp only [← hji5] <;> (first | rfl | simp)) | (simp [*]; done), by repeat (first | exact Drawn0.refl _ | apply Drawn0.step)⟩
  · rw [if_neg c4] at H
    exact absurd H (by simp)

/-! ### miradorref13_Value: function 21 -/
def miradorref13_Value.f (a0_0 : Int) (a0_1 : Int) (a0_2 : Bool) (a0_3 : Bool) (a0_4 : Int) (a0_5 : Int) (a0_6 : Int) (a0_7 : Int) (a0_8 : Int) (a0_9 : Int) (a1 : Int) : Option (Int) := (miradorref13_down.f (Go.bits .and .i64 (a1 / 65536) 255) a0_4 a0_7).bind fun t324 => ((miradorref13_down.f (Go.bits .and .i64 (a1 / 256) 255) a0_5 a0_8).bind fun t325 => ((miradorref13_down.f (Go.bits .and .i64 a1 255) a0_6 a0_9).bind fun t326 => (some (wrap64 ((wrap64 (t324 + t325)) + t326)))))
set_option maxHeartbeats 8000000 in
set_option maxRecDepth 100000 in
theorem miradorref13_Value.calls (a0_0 : Int) (a0_1 : Int) (a0_2 : Bool) (a0_3 : Bool) (a0_4 : Int) (a0_5 : Int) (a0_6 : Int) (a0_7 : Int) (a0_8 : Int) (a0_9 : Int) (a1 : Int) (r : Int) (w : World) (h : miradorref13_Value.f a0_0 a0_1 a0_2 a0_3 a0_4 a0_5 a0_6 a0_7 a0_8 a0_9 a1 = some r) :
    Calls Try.prog 21 #[.agg #[.int .i64 a0_0, .int .i64 a0_1, .bool a0_2, .bool a0_3, .int .i64 a0_4, .int .i64 a0_5, .int .i64 a0_6, .int .i64 a0_7, .int .i64 a0_8, .int .i64 a0_9], .int .i64 a1] w fun e w' => e = .returned (.int .i64 r) ∧ Below w.heap.size w w' := by
  have hu23 := Try.underlying23
  have HB := Aside0.mk (Below.refl w.heap.size w)
  have H : ((miradorref13_down.f (Go.bits .and .i64 (a1 / 65536) 255) a0_4 a0_7).bind fun t324 => ((miradorref13_down.f (Go.bits .and .i64 (a1 / 256) 255) a0_5 a0_8).bind fun t325 => ((miradorref13_down.f (Go.bits .and .i64 a1 255) a0_6 a0_9).bind fun t326 => (some (wrap64 ((wrap64 (t324 + t325)) + t326)))))) = some r := h
  clear h
  replace H := Option.bind_eq_some_iff.mp H
  obtain ⟨t324, A30, H⟩ := H
  replace H : ((miradorref13_down.f (Go.bits .and .i64 (a1 / 256) 255) a0_5 a0_8).bind fun t325 => ((miradorref13_down.f (Go.bits .and .i64 a1 255) a0_6 a0_9).bind fun t326 => (some (wrap64 ((wrap64 (t324 + t325)) + t326))))) = some r := H
  have A3 := Aside0.mk A30
  clear A30
  replace H := Option.bind_eq_some_iff.mp H
  obtain ⟨t325, A40, H⟩ := H
  replace H : ((miradorref13_down.f (Go.bits .and .i64 a1 255) a0_6 a0_9).bind fun t326 => (some (wrap64 ((wrap64 (t324 + t325)) + t326)))) = some r := H
  have A4 := Aside0.mk A40
  clear A40
  replace H := Option.bind_eq_some_iff.mp H
  obtain ⟨t326, A50, H⟩ := H
  replace H : (some (wrap64 ((wrap64 (t324 + t325)) + t326))) = some r := H
  have A5 := Aside0.mk A50
  clear A50
  obtain rfl := Option.some.inj H
  go_enter Try.func21, Try.ntmps21
  go_wp2_with (first | ((with_reducible refine gate_dst (N := 2) rfl ?_); refine box_event ?hg (N := 2) ?hd (cs := #[.int .i64 a0_0, .int .i64 a0_1, .bool a0_2, .bool a0_3, .int .i64 a0_4, .int .i64 a0_5, .int .i64 a0_6, .int .i64 a0_7, .int .i64 a0_8, .int .i64 a0_9]) (t := 23) ?hr ?_; (case hd => rfl); (case hg => rfl); (case hr => first | (go_simp; done) | (go_simp; rfl)); intro gb323 hg w6 hbox hb; have n0_ := Aside0.mk (below_step (by repeat (first | (with_reducible first | exact HB.out | apply below_alloc | apply pw_below_drewN | apply below_drew1) | exact HB.out)) hb); have n1_ := Aside0.mk (hbox); have n2_ := Aside0.mk ((by rw [hg]; exact (below_size (by repeat (first | (with_reducible first | exact HB.out | apply below_alloc | apply pw_below_drewN | apply below_drew1) | exact HB.out))) : w.heap.size ≤ gb323)); have n3_ := Aside0.mk ((by rw [hg]; exact (below_size (by repeat (first | (with_reducible first | exact HB.out | apply below_alloc | apply pw_below_drewN | apply below_drew1) | exact HB.out))) : w.heap.size ≤ gb323)); clear HB; have HB := n0_; have BK323 := n1_; have GW323 := n2_; have GE323 := n3_; clear n0_ n1_ n2_ n3_; clear hb hbox hg; have hcz7_0 : w6.cell? ⟨gb323, 0, none⟩ = some (.int .i64 a0_0) := (blk_cell BK323.out 0).trans rfl; have hcz7_1 : w6.cell? ⟨gb323, 1, none⟩ = some (.int .i64 a0_1) := (blk_cell BK323.out 1).trans rfl; have hcz7_2 : w6.cell? ⟨gb323, 2, none⟩ = some (.bool a0_2) := (blk_cell BK323.out 2).trans rfl; have hcz7_3 : w6.cell? ⟨gb323, 3, none⟩ = some (.bool a0_3) := (blk_cell BK323.out 3).trans rfl; have hcz7_4 : w6.cell? ⟨gb323, 4, none⟩ = some (.int .i64 a0_4) := (blk_cell BK323.out 4).trans rfl; have hcz7_5 : w6.cell? ⟨gb323, 5, none⟩ = some (.int .i64 a0_5) := (blk_cell BK323.out 5).trans rfl; have hcz7_6 : w6.cell? ⟨gb323, 6, none⟩ = some (.int .i64 a0_6) := (blk_cell BK323.out 6).trans rfl; have hcz7_7 : w6.cell? ⟨gb323, 7, none⟩ = some (.int .i64 a0_7) := (blk_cell BK323.out 7).trans rfl; have hcz7_8 : w6.cell? ⟨gb323, 8, none⟩ = some (.int .i64 a0_8) := (blk_cell BK323.out 8).trans rfl; have hcz7_9 : w6.cell? ⟨gb323, 9, none⟩ = some (.int .i64 a0_9) := (blk_cell BK323.out 9).trans rfl; have hfz7_0 := blk_frozen BK323.out 0; have hfz7_1 := blk_frozen BK323.out 1; have hfz7_2 := blk_frozen BK323.out 2; have hfz7_3 := blk_frozen BK323.out 3; have hfz7_4 := blk_frozen BK323.out 4; have hfz7_5 := blk_frozen BK323.out 5; have hfz7_6 := blk_frozen BK323.out 6; have hfz7_7 := blk_frozen BK323.out 7; have hfz7_8 := blk_frozen BK323.out 8; have hfz7_9 := blk_frozen BK323.out 9) | (go_at_call 45; (with_reducible refine (miradorref13_down.calls (Go.bits .and .i64 (a1 / 65536) 255) a0_4 a0_7 t324 _ A3.out).mono ?_); rintro e w' ⟨rfl, ⟨nd, rfl⟩⟩; (try first | exact ⟨rfl, _, World.drewN_drewN _ _ _⟩ | exact ⟨rfl, _, Eq.trans (World.drewN_drewN _ _ _) (congrArg (World.drewN _) (Nat.add_assoc _ _ _))⟩)) | (go_at_call 45; (with_reducible refine (miradorref13_down.calls (Go.bits .and .i64 (a1 / 256) 255) a0_5 a0_8 t325 _ A4.out).mono ?_); rintro e w' ⟨rfl, ⟨nd, rfl⟩⟩; (try first | exact ⟨rfl, _, World.drewN_drewN _ _ _⟩ | exact ⟨rfl, _, Eq.trans (World.drewN_drewN _ _ _) (congrArg (World.drewN _) (Nat.add_assoc _ _ _))⟩)) | (go_at_call 45; (with_reducible refine (miradorref13_down.calls (Go.bits .and .i64 a1 255) a0_6 a0_9 t326 _ A5.out).mono ?_); rintro e w' ⟨rfl, ⟨nd, rfl⟩⟩; (try first | exact ⟨rfl, _, World.drewN_drewN _ _ _⟩ | exact ⟨rfl, _, Eq.trans (World.drewN_drewN _ _ _) (congrArg (World.drewN _) (Nat.add_assoc _ _ _))⟩)))
  repeat (go_quiet (first | ((with_reducible refine gate_dst (N := 2) rfl ?_); refine box_event ?hg (N := 2) ?hd (cs := #[.int .i64 a0_0, .int .i64 a0_1, .bool a0_2, .bool a0_3, .int .i64 a0_4, .int .i64 a0_5, .int .i64 a0_6, .int .i64 a0_7, .int .i64 a0_8, .int .i64 a0_9]) (t := 23) ?hr ?_; (case hd => rfl); (case hg => rfl); (case hr => first | (go_simp; done) | (go_simp; rfl)); intro gb323 hg w6 hbox hb; have n0_ := Aside0.mk (below_step (by repeat (first | (with_reducible first | exact HB.out | apply below_alloc | apply pw_below_drewN | apply below_drew1) | exact HB.out)) hb); have n1_ := Aside0.mk (hbox); have n2_ := Aside0.mk ((by rw [hg]; exact (below_size (by repeat (first | (with_reducible first | exact HB.out | apply below_alloc | apply pw_below_drewN | apply below_drew1) | exact HB.out))) : w.heap.size ≤ gb323)); have n3_ := Aside0.mk ((by rw [hg]; exact (below_size (by repeat (first | (with_reducible first | exact HB.out | apply below_alloc | apply pw_below_drewN | apply below_drew1) | exact HB.out))) : w.heap.size ≤ gb323)); clear HB; have HB := n0_; have BK323 := n1_; have GW323 := n2_; have GE323 := n3_; clear n0_ n1_ n2_ n3_; clear hb hbox hg; have hcz7_0 : w6.cell? ⟨gb323, 0, none⟩ = some (.int .i64 a0_0) := (blk_cell BK323.out 0).trans rfl; have hcz7_1 : w6.cell? ⟨gb323, 1, none⟩ = some (.int .i64 a0_1) := (blk_cell BK323.out 1).trans rfl; have hcz7_2 : w6.cell? ⟨gb323, 2, none⟩ = some (.bool a0_2) := (blk_cell BK323.out 2).trans rfl; have hcz7_3 : w6.cell? ⟨gb323, 3, none⟩ = some (.bool a0_3) := (blk_cell BK323.out 3).trans rfl; have hcz7_4 : w6.cell? ⟨gb323, 4, none⟩ = some (.int .i64 a0_4) := (blk_cell BK323.out 4).trans rfl; have hcz7_5 : w6.cell? ⟨gb323, 5, none⟩ = some (.int .i64 a0_5) := (blk_cell BK323.out 5).trans rfl; have hcz7_6 : w6.cell? ⟨gb323, 6, none⟩ = some (.int .i64 a0_6) := (blk_cell BK323.out 6).trans rfl; have hcz7_7 : w6.cell? ⟨gb323, 7, none⟩ = some (.int .i64 a0_7) := (blk_cell BK323.out 7).trans rfl; have hcz7_8 : w6.cell? ⟨gb323, 8, none⟩ = some (.int .i64 a0_8) := (blk_cell BK323.out 8).trans rfl; have hcz7_9 : w6.cell? ⟨gb323, 9, none⟩ = some (.int .i64 a0_9) := (blk_cell BK323.out 9).trans rfl; have hfz7_0 := blk_frozen BK323.out 0; have hfz7_1 := blk_frozen BK323.out 1; have hfz7_2 := blk_frozen BK323.out 2; have hfz7_3 := blk_frozen BK323.out 3; have hfz7_4 := blk_frozen BK323.out 4; have hfz7_5 := blk_frozen BK323.out 5; have hfz7_6 := blk_frozen BK323.out 6; have hfz7_7 := blk_frozen BK323.out 7; have hfz7_8 := blk_frozen BK323.out 8; have hfz7_9 := blk_frozen BK323.out 9) | (go_at_call 45; (with_reducible refine (miradorref13_down.calls (Go.bits .and .i64 (a1 / 65536) 255) a0_4 a0_7 t324 _ A3.out).mono ?_); rintro e w' ⟨rfl, ⟨nd, rfl⟩⟩; (try first | exact ⟨rfl, _, World.drewN_drewN _ _ _⟩ | exact ⟨rfl, _, Eq.trans (World.drewN_drewN _ _ _) (congrArg (World.drewN _) (Nat.add_assoc _ _ _))⟩)) | (go_at_call 45; (with_reducible refine (miradorref13_down.calls (Go.bits .and .i64 (a1 / 256) 255) a0_5 a0_8 t325 _ A4.out).mono ?_); rintro e w' ⟨rfl, ⟨nd, rfl⟩⟩; (try first | exact ⟨rfl, _, World.drewN_drewN _ _ _⟩ | exact ⟨rfl, _, Eq.trans (World.drewN_drewN _ _ _) (congrArg (World.drewN _) (Nat.add_assoc _ _ _))⟩)) | (go_at_call 45; (with_reducible refine (miradorref13_down.calls (Go.bits .and .i64 a1 255) a0_6 a0_9 t326 _ A5.out).mono ?_); rintro e w' ⟨rfl, ⟨nd, rfl⟩⟩; (try first | exact ⟨rfl, _, World.drewN_drewN _ _ _⟩ | exact ⟨rfl, _, Eq.trans (World.drewN_drewN _ _ _) (congrArg (World.drewN _) (Nat.add_assoc _ _ _))⟩))); try go_wp2_with (first | ((with_reducible refine gate_dst (N := 2) rfl ?_); refine box_event ?hg (N := 2) ?hd (cs := #[.int .i64 a0_0, .int .i64 a0_1, .bool a0_2, .bool a0_3, .int .i64 a0_4, .int .i64 a0_5, .int .i64 a0_6, .int .i64 a0_7, .int .i64 a0_8, .int .i64 a0_9]) (t := 23) ?hr ?_; (case hd => rfl); (case hg => rfl); (case hr => first | (go_simp; done) | (go_simp; rfl)); intro gb323 hg w6 hbox hb; have n0_ := Aside0.mk (below_step (by repeat (first | (with_reducible first | exact HB.out | apply below_alloc | apply pw_below_drewN | apply below_drew1) | exact HB.out)) hb); have n1_ := Aside0.mk (hbox); have n2_ := Aside0.mk ((by rw [hg]; exact (below_size (by repeat (first | (with_reducible first | exact HB.out | apply below_alloc | apply pw_below_drewN | apply below_drew1) | exact HB.out))) : w.heap.size ≤ gb323)); have n3_ := Aside0.mk ((by rw [hg]; exact (below_size (by repeat (first | (with_reducible first | exact HB.out | apply below_alloc | apply pw_below_drewN | apply below_drew1) | exact HB.out))) : w.heap.size ≤ gb323)); clear HB; have HB := n0_; have BK323 := n1_; have GW323 := n2_; have GE323 := n3_; clear n0_ n1_ n2_ n3_; clear hb hbox hg; have hcz7_0 : w6.cell? ⟨gb323, 0, none⟩ = some (.int .i64 a0_0) := (blk_cell BK323.out 0).trans rfl; have hcz7_1 : w6.cell? ⟨gb323, 1, none⟩ = some (.int .i64 a0_1) := (blk_cell BK323.out 1).trans rfl; have hcz7_2 : w6.cell? ⟨gb323, 2, none⟩ = some (.bool a0_2) := (blk_cell BK323.out 2).trans rfl; have hcz7_3 : w6.cell? ⟨gb323, 3, none⟩ = some (.bool a0_3) := (blk_cell BK323.out 3).trans rfl; have hcz7_4 : w6.cell? ⟨gb323, 4, none⟩ = some (.int .i64 a0_4) := (blk_cell BK323.out 4).trans rfl; have hcz7_5 : w6.cell? ⟨gb323, 5, none⟩ = some (.int .i64 a0_5) := (blk_cell BK323.out 5).trans rfl; have hcz7_6 : w6.cell? ⟨gb323, 6, none⟩ = some (.int .i64 a0_6) := (blk_cell BK323.out 6).trans rfl; have hcz7_7 : w6.cell? ⟨gb323, 7, none⟩ = some (.int .i64 a0_7) := (blk_cell BK323.out 7).trans rfl; have hcz7_8 : w6.cell? ⟨gb323, 8, none⟩ = some (.int .i64 a0_8) := (blk_cell BK323.out 8).trans rfl; have hcz7_9 : w6.cell? ⟨gb323, 9, none⟩ = some (.int .i64 a0_9) := (blk_cell BK323.out 9).trans rfl; have hfz7_0 := blk_frozen BK323.out 0; have hfz7_1 := blk_frozen BK323.out 1; have hfz7_2 := blk_frozen BK323.out 2; have hfz7_3 := blk_frozen BK323.out 3; have hfz7_4 := blk_frozen BK323.out 4; have hfz7_5 := blk_frozen BK323.out 5; have hfz7_6 := blk_frozen BK323.out 6; have hfz7_7 := blk_frozen BK323.out 7; have hfz7_8 := blk_frozen BK323.out 8; have hfz7_9 := blk_frozen BK323.out 9) | (go_at_call 45; (with_reducible refine (miradorref13_down.calls (Go.bits .and .i64 (a1 / 65536) 255) a0_4 a0_7 t324 _ A3.out).mono ?_); rintro e w' ⟨rfl, ⟨nd, rfl⟩⟩; (try first | exact ⟨rfl, _, World.drewN_drewN _ _ _⟩ | exact ⟨rfl, _, Eq.trans (World.drewN_drewN _ _ _) (congrArg (World.drewN _) (Nat.add_assoc _ _ _))⟩)) | (go_at_call 45; (with_reducible refine (miradorref13_down.calls (Go.bits .and .i64 (a1 / 256) 255) a0_5 a0_8 t325 _ A4.out).mono ?_); rintro e w' ⟨rfl, ⟨nd, rfl⟩⟩; (try first | exact ⟨rfl, _, World.drewN_drewN _ _ _⟩ | exact ⟨rfl, _, Eq.trans (World.drewN_drewN _ _ _) (congrArg (World.drewN _) (Nat.add_assoc _ _ _))⟩)) | (go_at_call 45; (with_reducible refine (miradorref13_down.calls (Go.bits .and .i64 a1 255) a0_6 a0_9 t326 _ A5.out).mono ?_); rintro e w' ⟨rfl, ⟨nd, rfl⟩⟩; (try first | exact ⟨rfl, _, World.drewN_drewN _ _ _⟩ | exact ⟨rfl, _, Eq.trans (World.drewN_drewN _ _ _) (congrArg (World.drewN _) (Nat.add_assoc _ _ _))⟩))))
  go_ret
  exact ⟨by first | rfl | (simp [errW_none, errW_some] <;> rfl) | (simp [*, errW_none, errW_some] <;> rfl), by repeat (first | (with_reducible first | exact HB.out | apply below_alloc | apply pw_below_drewN | apply below_drew1 | refine below_set ?_ GE323.out) | exact HB.out)⟩

/-! ### miradorref13_up: function 46 -/
def miradorref13_up.f (a0 : Int) (a1 : Int) (a2 : Int) : Option (Int) := if 0 ≤ a2 then (if a1 = 0 then (none) else (some (wrap64 (Int.tdiv (wrap64 ((wrap64 ((Go.bits .and .i64 (shr .i64 a0 a2) a1) * 255)) + (wrap64 (Int.tdiv a1 2)))) a1)))) else (none)
set_option maxHeartbeats 8000000 in
set_option maxRecDepth 100000 in
theorem miradorref13_up.calls (a0 : Int) (a1 : Int) (a2 : Int) (r : Int) (w : World) (h : miradorref13_up.f a0 a1 a2 = some r) :
    Calls Try.prog 46 #[.int .i64 a0, .int .i64 a1, .int .i64 a2] w fun e w' => e = .returned (.int .i64 r) ∧ Drawn0 w w' := by
  have H : (if 0 ≤ a2 then (if a1 = 0 then (none) else (some (wrap64 (Int.tdiv (wrap64 ((wrap64 ((Go.bits .and .i64 (shr .i64 a0 a2) a1) * 255)) + (wrap64 (Int.tdiv a1 2)))) a1)))) else (none)) = some r := h
  clear h
  by_cases c4 : 0 ≤ a2
  · rw [if_pos c4] at H
    have c4b0 := eq_true c4
    have c4b1 : decide (0 ≤ a2) = true := decide_eq_true c4
    clear c4
    obtain ⟨ji5, hji5⟩ : ∃ j_ : Int, (shr .i64 a0 a2) = j_ := ⟨_, rfl⟩
    replace H : (if a1 = 0 then (none) else (some (wrap64 (Int.tdiv (wrap64 ((wrap64 ((Go.bits .and .i64 (ji5) a1) * 255)) + (wrap64 (Int.tdiv a1 2)))) a1)))) = some r := by first | (rw [hji5] at H; exact H) | (simp only [hji5] at H ⊢; exact H)
    have hji5_ : (a0 / 2 ^ min a2.toNat 64) = ji5 := hji5
    have hji5z : a2 ≤ 64 → (a0 / 2 ^ a2.toNat) = ji5 := shr_small hji5
    by_cases c6 : a1 = 0
    · rw [if_pos c6] at H
      exact absurd H (by simp)
    · rw [if_neg c6] at H
      have c6b0 : (a1 == 0) = false := beq_eq_false_iff_ne.mpr c6
      have c6b1 : (a1 != 0) = true := bne_iff_ne.mpr c6
      obtain rfl := Option.some.inj H
      go_enter Try.func46, Try.ntmps46
      go_wp2
      go_ret
      exact ⟨by first | rfl | (simp; done) | (simp only [← hji5] <;> (first | rfl | simp)) | (simp [*]; done), by repeat (first | exact Drawn0.refl _ | apply Drawn0.step)⟩
  · rw [if_neg c4] at H
    exact absurd H (by simp)

/-! ### miradorref13_Colour: function 22 -/
def miradorref13_Colour.f (a0_0 : Int) (a0_1 : Int) (a0_2 : Bool) (a0_3 : Bool) (a0_4 : Int) (a0_5 : Int) (a0_6 : Int) (a0_7 : Int) (a0_8 : Int) (a0_9 : Int) (a1 : Int) : Option (Int) := (miradorref13_up.f a1 a0_4 a0_7).bind fun t328 => ((miradorref13_up.f a1 a0_5 a0_8).bind fun t329 => ((miradorref13_up.f a1 a0_6 a0_9).bind fun t330 => (some (wrap64 ((wrap64 ((wrap64 (t328 * 65536)) + (wrap64 (t329 * 256)))) + t330)))))
set_option maxHeartbeats 8000000 in
set_option maxRecDepth 100000 in
theorem miradorref13_Colour.calls (a0_0 : Int) (a0_1 : Int) (a0_2 : Bool) (a0_3 : Bool) (a0_4 : Int) (a0_5 : Int) (a0_6 : Int) (a0_7 : Int) (a0_8 : Int) (a0_9 : Int) (a1 : Int) (r : Int) (w : World) (h : miradorref13_Colour.f a0_0 a0_1 a0_2 a0_3 a0_4 a0_5 a0_6 a0_7 a0_8 a0_9 a1 = some r) :
    Calls Try.prog 22 #[.agg #[.int .i64 a0_0, .int .i64 a0_1, .bool a0_2, .bool a0_3, .int .i64 a0_4, .int .i64 a0_5, .int .i64 a0_6, .int .i64 a0_7, .int .i64 a0_8, .int .i64 a0_9], .int .i64 a1] w fun e w' => e = .returned (.int .i64 r) ∧ Below w.heap.size w w' := by
  have hu23 := Try.underlying23
  have HB := Aside0.mk (Below.refl w.heap.size w)
  have H : ((miradorref13_up.f a1 a0_4 a0_7).bind fun t328 => ((miradorref13_up.f a1 a0_5 a0_8).bind fun t329 => ((miradorref13_up.f a1 a0_6 a0_9).bind fun t330 => (some (wrap64 ((wrap64 ((wrap64 (t328 * 65536)) + (wrap64 (t329 * 256)))) + t330)))))) = some r := h
  clear h
  replace H := Option.bind_eq_some_iff.mp H
  obtain ⟨t328, A30, H⟩ := H
  replace H : ((miradorref13_up.f a1 a0_5 a0_8).bind fun t329 => ((miradorref13_up.f a1 a0_6 a0_9).bind fun t330 => (some (wrap64 ((wrap64 ((wrap64 (t328 * 65536)) + (wrap64 (t329 * 256)))) + t330))))) = some r := H
  have A3 := Aside0.mk A30
  clear A30
  replace H := Option.bind_eq_some_iff.mp H
  obtain ⟨t329, A40, H⟩ := H
  replace H : ((miradorref13_up.f a1 a0_6 a0_9).bind fun t330 => (some (wrap64 ((wrap64 ((wrap64 (t328 * 65536)) + (wrap64 (t329 * 256)))) + t330)))) = some r := H
  have A4 := Aside0.mk A40
  clear A40
  replace H := Option.bind_eq_some_iff.mp H
  obtain ⟨t330, A50, H⟩ := H
  replace H : (some (wrap64 ((wrap64 ((wrap64 (t328 * 65536)) + (wrap64 (t329 * 256)))) + t330))) = some r := H
  have A5 := Aside0.mk A50
  clear A50
  obtain rfl := Option.some.inj H
  go_enter Try.func22, Try.ntmps22
  go_wp2_with (first | ((with_reducible refine gate_dst (N := 2) rfl ?_); refine box_event ?hg (N := 2) ?hd (cs := #[.int .i64 a0_0, .int .i64 a0_1, .bool a0_2, .bool a0_3, .int .i64 a0_4, .int .i64 a0_5, .int .i64 a0_6, .int .i64 a0_7, .int .i64 a0_8, .int .i64 a0_9]) (t := 23) ?hr ?_; (case hd => rfl); (case hg => rfl); (case hr => first | (go_simp; done) | (go_simp; rfl)); intro gb327 hg w6 hbox hb; have n0_ := Aside0.mk (below_step (by repeat (first | (with_reducible first | exact HB.out | apply below_alloc | apply pw_below_drewN | apply below_drew1) | exact HB.out)) hb); have n1_ := Aside0.mk (hbox); have n2_ := Aside0.mk ((by rw [hg]; exact (below_size (by repeat (first | (with_reducible first | exact HB.out | apply below_alloc | apply pw_below_drewN | apply below_drew1) | exact HB.out))) : w.heap.size ≤ gb327)); have n3_ := Aside0.mk ((by rw [hg]; exact (below_size (by repeat (first | (with_reducible first | exact HB.out | apply below_alloc | apply pw_below_drewN | apply below_drew1) | exact HB.out))) : w.heap.size ≤ gb327)); clear HB; have HB := n0_; have BK327 := n1_; have GW327 := n2_; have GE327 := n3_; clear n0_ n1_ n2_ n3_; clear hb hbox hg; have hcz7_0 : w6.cell? ⟨gb327, 0, none⟩ = some (.int .i64 a0_0) := (blk_cell BK327.out 0).trans rfl; have hcz7_1 : w6.cell? ⟨gb327, 1, none⟩ = some (.int .i64 a0_1) := (blk_cell BK327.out 1).trans rfl; have hcz7_2 : w6.cell? ⟨gb327, 2, none⟩ = some (.bool a0_2) := (blk_cell BK327.out 2).trans rfl; have hcz7_3 : w6.cell? ⟨gb327, 3, none⟩ = some (.bool a0_3) := (blk_cell BK327.out 3).trans rfl; have hcz7_4 : w6.cell? ⟨gb327, 4, none⟩ = some (.int .i64 a0_4) := (blk_cell BK327.out 4).trans rfl; have hcz7_5 : w6.cell? ⟨gb327, 5, none⟩ = some (.int .i64 a0_5) := (blk_cell BK327.out 5).trans rfl; have hcz7_6 : w6.cell? ⟨gb327, 6, none⟩ = some (.int .i64 a0_6) := (blk_cell BK327.out 6).trans rfl; have hcz7_7 : w6.cell? ⟨gb327, 7, none⟩ = some (.int .i64 a0_7) := (blk_cell BK327.out 7).trans rfl; have hcz7_8 : w6.cell? ⟨gb327, 8, none⟩ = some (.int .i64 a0_8) := (blk_cell BK327.out 8).trans rfl; have hcz7_9 : w6.cell? ⟨gb327, 9, none⟩ = some (.int .i64 a0_9) := (blk_cell BK327.out 9).trans rfl; have hfz7_0 := blk_frozen BK327.out 0; have hfz7_1 := blk_frozen BK327.out 1; have hfz7_2 := blk_frozen BK327.out 2; have hfz7_3 := blk_frozen BK327.out 3; have hfz7_4 := blk_frozen BK327.out 4; have hfz7_5 := blk_frozen BK327.out 5; have hfz7_6 := blk_frozen BK327.out 6; have hfz7_7 := blk_frozen BK327.out 7; have hfz7_8 := blk_frozen BK327.out 8; have hfz7_9 := blk_frozen BK327.out 9) | (go_at_call 46; (with_reducible refine (miradorref13_up.calls a1 a0_4 a0_7 t328 _ A3.out).mono ?_); rintro e w' ⟨rfl, ⟨nd, rfl⟩⟩; (try first | exact ⟨rfl, _, World.drewN_drewN _ _ _⟩ | exact ⟨rfl, _, Eq.trans (World.drewN_drewN _ _ _) (congrArg (World.drewN _) (Nat.add_assoc _ _ _))⟩)) | (go_at_call 46; (with_reducible refine (miradorref13_up.calls a1 a0_5 a0_8 t329 _ A4.out).mono ?_); rintro e w' ⟨rfl, ⟨nd, rfl⟩⟩; (try first | exact ⟨rfl, _, World.drewN_drewN _ _ _⟩ | exact ⟨rfl, _, Eq.trans (World.drewN_drewN _ _ _) (congrArg (World.drewN _) (Nat.add_assoc _ _ _))⟩)) | (go_at_call 46; (with_reducible refine (miradorref13_up.calls a1 a0_6 a0_9 t330 _ A5.out).mono ?_); rintro e w' ⟨rfl, ⟨nd, rfl⟩⟩; (try first | exact ⟨rfl, _, World.drewN_drewN _ _ _⟩ | exact ⟨rfl, _, Eq.trans (World.drewN_drewN _ _ _) (congrArg (World.drewN _) (Nat.add_assoc _ _ _))⟩)))
  repeat (go_quiet (first | ((with_reducible refine gate_dst (N := 2) rfl ?_); refine box_event ?hg (N := 2) ?hd (cs := #[.int .i64 a0_0, .int .i64 a0_1, .bool a0_2, .bool a0_3, .int .i64 a0_4, .int .i64 a0_5, .int .i64 a0_6, .int .i64 a0_7, .int .i64 a0_8, .int .i64 a0_9]) (t := 23) ?hr ?_; (case hd => rfl); (case hg => rfl); (case hr => first | (go_simp; done) | (go_simp; rfl)); intro gb327 hg w6 hbox hb; have n0_ := Aside0.mk (below_step (by repeat (first | (with_reducible first | exact HB.out | apply below_alloc | apply pw_below_drewN | apply below_drew1) | exact HB.out)) hb); have n1_ := Aside0.mk (hbox); have n2_ := Aside0.mk ((by rw [hg]; exact (below_size (by repeat (first | (with_reducible first | exact HB.out | apply below_alloc | apply pw_below_drewN | apply below_drew1) | exact HB.out))) : w.heap.size ≤ gb327)); have n3_ := Aside0.mk ((by rw [hg]; exact (below_size (by repeat (first | (with_reducible first | exact HB.out | apply below_alloc | apply pw_below_drewN | apply below_drew1) | exact HB.out))) : w.heap.size ≤ gb327)); clear HB; have HB := n0_; have BK327 := n1_; have GW327 := n2_; have GE327 := n3_; clear n0_ n1_ n2_ n3_; clear hb hbox hg; have hcz7_0 : w6.cell? ⟨gb327, 0, none⟩ = some (.int .i64 a0_0) := (blk_cell BK327.out 0).trans rfl; have hcz7_1 : w6.cell? ⟨gb327, 1, none⟩ = some (.int .i64 a0_1) := (blk_cell BK327.out 1).trans rfl; have hcz7_2 : w6.cell? ⟨gb327, 2, none⟩ = some (.bool a0_2) := (blk_cell BK327.out 2).trans rfl; have hcz7_3 : w6.cell? ⟨gb327, 3, none⟩ = some (.bool a0_3) := (blk_cell BK327.out 3).trans rfl; have hcz7_4 : w6.cell? ⟨gb327, 4, none⟩ = some (.int .i64 a0_4) := (blk_cell BK327.out 4).trans rfl; have hcz7_5 : w6.cell? ⟨gb327, 5, none⟩ = some (.int .i64 a0_5) := (blk_cell BK327.out 5).trans rfl; have hcz7_6 : w6.cell? ⟨gb327, 6, none⟩ = some (.int .i64 a0_6) := (blk_cell BK327.out 6).trans rfl; have hcz7_7 : w6.cell? ⟨gb327, 7, none⟩ = some (.int .i64 a0_7) := (blk_cell BK327.out 7).trans rfl; have hcz7_8 : w6.cell? ⟨gb327, 8, none⟩ = some (.int .i64 a0_8) := (blk_cell BK327.out 8).trans rfl; have hcz7_9 : w6.cell? ⟨gb327, 9, none⟩ = some (.int .i64 a0_9) := (blk_cell BK327.out 9).trans rfl; have hfz7_0 := blk_frozen BK327.out 0; have hfz7_1 := blk_frozen BK327.out 1; have hfz7_2 := blk_frozen BK327.out 2; have hfz7_3 := blk_frozen BK327.out 3; have hfz7_4 := blk_frozen BK327.out 4; have hfz7_5 := blk_frozen BK327.out 5; have hfz7_6 := blk_frozen BK327.out 6; have hfz7_7 := blk_frozen BK327.out 7; have hfz7_8 := blk_frozen BK327.out 8; have hfz7_9 := blk_frozen BK327.out 9) | (go_at_call 46; (with_reducible refine (miradorref13_up.calls a1 a0_4 a0_7 t328 _ A3.out).mono ?_); rintro e w' ⟨rfl, ⟨nd, rfl⟩⟩; (try first | exact ⟨rfl, _, World.drewN_drewN _ _ _⟩ | exact ⟨rfl, _, Eq.trans (World.drewN_drewN _ _ _) (congrArg (World.drewN _) (Nat.add_assoc _ _ _))⟩)) | (go_at_call 46; (with_reducible refine (miradorref13_up.calls a1 a0_5 a0_8 t329 _ A4.out).mono ?_); rintro e w' ⟨rfl, ⟨nd, rfl⟩⟩; (try first | exact ⟨rfl, _, World.drewN_drewN _ _ _⟩ | exact ⟨rfl, _, Eq.trans (World.drewN_drewN _ _ _) (congrArg (World.drewN _) (Nat.add_assoc _ _ _))⟩)) | (go_at_call 46; (with_reducible refine (miradorref13_up.calls a1 a0_6 a0_9 t330 _ A5.out).mono ?_); rintro e w' ⟨rfl, ⟨nd, rfl⟩⟩; (try first | exact ⟨rfl, _, World.drewN_drewN _ _ _⟩ | exact ⟨rfl, _, Eq.trans (World.drewN_drewN _ _ _) (congrArg (World.drewN _) (Nat.add_assoc _ _ _))⟩))); try go_wp2_with (first | ((with_reducible refine gate_dst (N := 2) rfl ?_); refine box_event ?hg (N := 2) ?hd (cs := #[.int .i64 a0_0, .int .i64 a0_1, .bool a0_2, .bool a0_3, .int .i64 a0_4, .int .i64 a0_5, .int .i64 a0_6, .int .i64 a0_7, .int .i64 a0_8, .int .i64 a0_9]) (t := 23) ?hr ?_; (case hd => rfl); (case hg => rfl); (case hr => first | (go_simp; done) | (go_simp; rfl)); intro gb327 hg w6 hbox hb; have n0_ := Aside0.mk (below_step (by repeat (first | (with_reducible first | exact HB.out | apply below_alloc | apply pw_below_drewN | apply below_drew1) | exact HB.out)) hb); have n1_ := Aside0.mk (hbox); have n2_ := Aside0.mk ((by rw [hg]; exact (below_size (by repeat (first | (with_reducible first | exact HB.out | apply below_alloc | apply pw_below_drewN | apply below_drew1) | exact HB.out))) : w.heap.size ≤ gb327)); have n3_ := Aside0.mk ((by rw [hg]; exact (below_size (by repeat (first | (with_reducible first | exact HB.out | apply below_alloc | apply pw_below_drewN | apply below_drew1) | exact HB.out))) : w.heap.size ≤ gb327)); clear HB; have HB := n0_; have BK327 := n1_; have GW327 := n2_; have GE327 := n3_; clear n0_ n1_ n2_ n3_; clear hb hbox hg; have hcz7_0 : w6.cell? ⟨gb327, 0, none⟩ = some (.int .i64 a0_0) := (blk_cell BK327.out 0).trans rfl; have hcz7_1 : w6.cell? ⟨gb327, 1, none⟩ = some (.int .i64 a0_1) := (blk_cell BK327.out 1).trans rfl; have hcz7_2 : w6.cell? ⟨gb327, 2, none⟩ = some (.bool a0_2) := (blk_cell BK327.out 2).trans rfl; have hcz7_3 : w6.cell? ⟨gb327, 3, none⟩ = some (.bool a0_3) := (blk_cell BK327.out 3).trans rfl; have hcz7_4 : w6.cell? ⟨gb327, 4, none⟩ = some (.int .i64 a0_4) := (blk_cell BK327.out 4).trans rfl; have hcz7_5 : w6.cell? ⟨gb327, 5, none⟩ = some (.int .i64 a0_5) := (blk_cell BK327.out 5).trans rfl; have hcz7_6 : w6.cell? ⟨gb327, 6, none⟩ = some (.int .i64 a0_6) := (blk_cell BK327.out 6).trans rfl; have hcz7_7 : w6.cell? ⟨gb327, 7, none⟩ = some (.int .i64 a0_7) := (blk_cell BK327.out 7).trans rfl; have hcz7_8 : w6.cell? ⟨gb327, 8, none⟩ = some (.int .i64 a0_8) := (blk_cell BK327.out 8).trans rfl; have hcz7_9 : w6.cell? ⟨gb327, 9, none⟩ = some (.int .i64 a0_9) := (blk_cell BK327.out 9).trans rfl; have hfz7_0 := blk_frozen BK327.out 0; have hfz7_1 := blk_frozen BK327.out 1; have hfz7_2 := blk_frozen BK327.out 2; have hfz7_3 := blk_frozen BK327.out 3; have hfz7_4 := blk_frozen BK327.out 4; have hfz7_5 := blk_frozen BK327.out 5; have hfz7_6 := blk_frozen BK327.out 6; have hfz7_7 := blk_frozen BK327.out 7; have hfz7_8 := blk_frozen BK327.out 8; have hfz7_9 := blk_frozen BK327.out 9) | (go_at_call 46; (with_reducible refine (miradorref13_up.calls a1 a0_4 a0_7 t328 _ A3.out).mono ?_); rintro e w' ⟨rfl, ⟨nd, rfl⟩⟩; (try first | exact ⟨rfl, _, World.drewN_drewN _ _ _⟩ | exact ⟨rfl, _, Eq.trans (World.drewN_drewN _ _ _) (congrArg (World.drewN _) (Nat.add_assoc _ _ _))⟩)) | (go_at_call 46; (with_reducible refine (miradorref13_up.calls a1 a0_5 a0_8 t329 _ A4.out).mono ?_); rintro e w' ⟨rfl, ⟨nd, rfl⟩⟩; (try first | exact ⟨rfl, _, World.drewN_drewN _ _ _⟩ | exact ⟨rfl, _, Eq.trans (World.drewN_drewN _ _ _) (congrArg (World.drewN _) (Nat.add_assoc _ _ _))⟩)) | (go_at_call 46; (with_reducible refine (miradorref13_up.calls a1 a0_6 a0_9 t330 _ A5.out).mono ?_); rintro e w' ⟨rfl, ⟨nd, rfl⟩⟩; (try first | exact ⟨rfl, _, World.drewN_drewN _ _ _⟩ | exact ⟨rfl, _, Eq.trans (World.drewN_drewN _ _ _) (congrArg (World.drewN _) (Nat.add_assoc _ _ _))⟩))))
  go_ret
  exact ⟨by first | rfl | (simp [errW_none, errW_some] <;> rfl) | (simp [*, errW_none, errW_some] <;> rfl), by repeat (first | (with_reducible first | exact HB.out | apply below_alloc | apply pw_below_drewN | apply below_drew1 | refine below_set ?_ GE327.out) | exact HB.out)⟩

/-! ### miradorref13_Quant: function 23 -/
def miradorref13_Quant.f (a0_0 : Int) (a0_1 : Int) (a0_2 : Bool) (a0_3 : Bool) (a0_4 : Int) (a0_5 : Int) (a0_6 : Int) (a0_7 : Int) (a0_8 : Int) (a0_9 : Int) (a1 : Int) : Option (Int) := (miradorref13_Value.f a0_0 a0_1 a0_2 a0_3 a0_4 a0_5 a0_6 a0_7 a0_8 a0_9 a1).bind fun t332 => ((miradorref13_Colour.f a0_0 a0_1 a0_2 a0_3 a0_4 a0_5 a0_6 a0_7 a0_8 a0_9 t332).bind fun t333 => (some t333))
set_option maxHeartbeats 8000000 in
set_option maxRecDepth 100000 in
theorem miradorref13_Quant.calls (a0_0 : Int) (a0_1 : Int) (a0_2 : Bool) (a0_3 : Bool) (a0_4 : Int) (a0_5 : Int) (a0_6 : Int) (a0_7 : Int) (a0_8 : Int) (a0_9 : Int) (a1 : Int) (r : Int) (w : World) (h : miradorref13_Quant.f a0_0 a0_1 a0_2 a0_3 a0_4 a0_5 a0_6 a0_7 a0_8 a0_9 a1 = some r) :
    Calls Try.prog 23 #[.agg #[.int .i64 a0_0, .int .i64 a0_1, .bool a0_2, .bool a0_3, .int .i64 a0_4, .int .i64 a0_5, .int .i64 a0_6, .int .i64 a0_7, .int .i64 a0_8, .int .i64 a0_9], .int .i64 a1] w fun e w' => e = .returned (.int .i64 r) ∧ Below w.heap.size w w' := by
  have hu23 := Try.underlying23
  have HB := Aside0.mk (Below.refl w.heap.size w)
  have H : ((miradorref13_Value.f a0_0 a0_1 a0_2 a0_3 a0_4 a0_5 a0_6 a0_7 a0_8 a0_9 a1).bind fun t332 => ((miradorref13_Colour.f a0_0 a0_1 a0_2 a0_3 a0_4 a0_5 a0_6 a0_7 a0_8 a0_9 t332).bind fun t333 => (some t333))) = some r := h
  clear h
  replace H := Option.bind_eq_some_iff.mp H
  obtain ⟨t332, A30, H⟩ := H
  replace H : ((miradorref13_Colour.f a0_0 a0_1 a0_2 a0_3 a0_4 a0_5 a0_6 a0_7 a0_8 a0_9 t332).bind fun t333 => (some t333)) = some r := H
  have A3 := Aside0.mk A30
  clear A30
  replace H := Option.bind_eq_some_iff.mp H
  obtain ⟨t333, A40, H⟩ := H
  replace H : (some t333) = some r := H
  have A4 := Aside0.mk A40
  clear A40
  obtain rfl := Option.some.inj H
  go_enter Try.func23, Try.ntmps23
  try go_wp2_with (first | ((with_reducible refine gate_dst (N := 2) rfl ?_); refine box_event ?hg (N := 2) ?hd (cs := #[.int .i64 a0_0, .int .i64 a0_1, .bool a0_2, .bool a0_3, .int .i64 a0_4, .int .i64 a0_5, .int .i64 a0_6, .int .i64 a0_7, .int .i64 a0_8, .int .i64 a0_9]) (t := 23) ?hr ?_; (case hd => rfl); (case hg => rfl); (case hr => first | (go_simp; done) | (go_simp; rfl)); intro gb331 hg w5 hbox hb; have n0_ := Aside0.mk (below_step (by repeat (first | (with_reducible first | exact HB.out | apply below_alloc | apply pw_below_drewN | apply below_drew1) | exact HB.out)) hb); have n1_ := Aside0.mk (hbox); have n2_ := Aside0.mk ((by rw [hg]; exact (below_size (by repeat (first | (with_reducible first | exact HB.out | apply below_alloc | apply pw_below_drewN | apply below_drew1) | exact HB.out))) : w.heap.size ≤ gb331)); have n3_ := Aside0.mk ((by rw [hg]; exact (below_size (by repeat (first | (with_reducible first | exact HB.out | apply below_alloc | apply pw_below_drewN | apply below_drew1) | exact HB.out))) : w.heap.size ≤ gb331)); clear HB; have HB := n0_; have BK331 := n1_; have GW331 := n2_; have GE331 := n3_; clear n0_ n1_ n2_ n3_; clear hb hbox hg))
  have n0_ := Aside0.mk (blk_drew BK331.out)
  have n1_ := Aside0.mk (below_drew1 HB.out)
  clear BK331
  clear HB
  have BK331 := n0_
  have HB := n1_
  clear n0_ n1_
  refine start_ (n := 6) (S := fun w' => w'.cell? ⟨gb331, 0, none⟩ = some (.int .i64 a0_0) ∧ w'.cell? ⟨gb331, 1, none⟩ = some (.int .i64 a0_1) ∧ w'.cell? ⟨gb331, 2, none⟩ = some (.bool a0_2) ∧ w'.cell? ⟨gb331, 3, none⟩ = some (.bool a0_3) ∧ w'.cell? ⟨gb331, 4, none⟩ = some (.int .i64 a0_4) ∧ w'.cell? ⟨gb331, 5, none⟩ = some (.int .i64 a0_5) ∧ w'.cell? ⟨gb331, 6, none⟩ = some (.int .i64 a0_6) ∧ w'.cell? ⟨gb331, 7, none⟩ = some (.int .i64 a0_7) ∧ w'.cell? ⟨gb331, 8, none⟩ = some (.int .i64 a0_8) ∧ w'.cell? ⟨gb331, 9, none⟩ = some (.int .i64 a0_9)) (ds := []) #[false, false, false, false, false, false] (by kernel_rfl) rfl rfl ⟨(blk_cell BK331.out 0).trans rfl, (blk_cell BK331.out 1).trans rfl, (blk_cell BK331.out 2).trans rfl, (blk_cell BK331.out 3).trans rfl, (blk_cell BK331.out 4).trans rfl, (blk_cell BK331.out 5).trans rfl, (blk_cell BK331.out 6).trans rfl, (blk_cell BK331.out 7).trans rfl, (blk_cell BK331.out 8).trans rfl, (blk_cell BK331.out 9).trans rfl⟩ (fun hHeld => ?_)
  generalize w5.drew = w6 at BK331 HB hHeld ⊢
  refine pure_ (i := 2) (N := some 7) (v := ?_) (a' := ?_) #[false, false, true, false, false, false] rfl rfl (by kernel_rfl) (fun _ _ _ h => h) (Or.inl ⟨by rfl, ?_⟩) ?_ ?_
  rotate_left
  · intro w'
    go_simp
    with_reducible rfl
  rotate_left
  · simp only [Act.put, List.setIfInBounds_toArray, List.set_cons_zero, List.set_cons_succ, i64_w, i32_w]
    rfl
  refine take_ (i := 0) (N := some 5) (v := ?_) (a' := ?_) #[true, false, true, false, false, false] rfl rfl (by kernel_rfl) (fun _ _ _ h => h) (Or.inl ⟨by rfl, ?_⟩) hHeld ?_ ?_
  rotate_left
  · rintro w' ⟨s0, s1, s2, s3, s4, s5, s6, s7, s8, s9⟩
    go_simp
    with_reducible rfl
  rotate_left
  · simp only [Act.put, List.setIfInBounds_toArray, List.set_cons_zero, List.set_cons_succ, i64_w, i32_w]
    rfl
  refine take_ (i := 1) (N := some 6) (v := ?_) (a' := ?_) #[true, true, true, false, false, false] rfl rfl (by kernel_rfl) (fun _ _ _ h => h) (Or.inl ⟨by rfl, ?_⟩) hHeld ?_ ?_
  rotate_left
  · rintro w' ⟨s0, s1, s2, s3, s4, s5, s6, s7, s8, s9⟩
    go_simp
    with_reducible rfl
  rotate_left
  · simp only [Act.put, List.setIfInBounds_toArray, List.set_cons_zero, List.set_cons_succ, i64_w, i32_w]
    rfl
  refine one_ (i := 3) (N := some 8) #[true, true, true, true, false, false] rfl rfl (by kernel_rfl) (by decide) (fun K hK => ?_)
  refine goes_ Try.func21 (by kernel_rfl) rfl #[.agg #[.int .i64 a0_0, .int .i64 a0_1, .bool a0_2, .bool a0_3, .int .i64 a0_4, .int .i64 a0_5, .int .i64 a0_6, .int .i64 a0_7, .int .i64 a0_8, .int .i64 a0_9], .int .i64 a1] (by rfl) rfl rfl (by (try simp only [List.map_toArray, List.map_cons, List.map_nil]); first | done | rfl | (simp only [List.length_drop, List.length_take]; rfl)) ?_
  with_reducible refine (miradorref13_Value.calls a0_0 a0_1 a0_2 a0_3 a0_4 a0_5 a0_6 a0_7 a0_8 a0_9 a1 t332 _ A3.out).mono ?_
  rintro e w7 ⟨rfl, hb⟩
  refine ⟨_, rfl, ?_⟩
  have n0_ := Aside0.mk (blk_below (g := gb331) (o := .cells #[.int .i64 a0_0, .int .i64 a0_1, .bool a0_2, .bool a0_3, .int .i64 a0_4, .int .i64 a0_5, .int .i64 a0_6, .int .i64 a0_7, .int .i64 a0_8, .int .i64 a0_9] 23 (0, 0)) (by (with_reducible repeat (first | refine blk_drewN ?_ _ | refine blk_drew ?_ | refine blk_alloc ?_ _)); exact BK331.out) hb)
  have n1_ := Aside0.mk (below_step (by repeat (first | (with_reducible first | exact HB.out | apply below_alloc | apply pw_below_drewN | apply below_drew1 | refine below_set ?_ GE331.out) | exact HB.out)) hb)
  clear BK331
  clear HB
  have BK331 := n0_
  have HB := n1_
  clear n0_ n1_
  (try clear hb)
  (try clear hb2)
  (try clear hk)
  (try clear hi)
  refine hK.out _ _ ⟨(blk_cell BK331.out 0).trans rfl, (blk_cell BK331.out 1).trans rfl, (blk_cell BK331.out 2).trans rfl, (blk_cell BK331.out 3).trans rfl, (blk_cell BK331.out 4).trans rfl, (blk_cell BK331.out 5).trans rfl, (blk_cell BK331.out 6).trans rfl, (blk_cell BK331.out 7).trans rfl, (blk_cell BK331.out 8).trans rfl, (blk_cell BK331.out 9).trans rfl⟩ (fun hHeld => ?_)
  clear hK K
  refine norm_ (a' := ?_) ?_ ?_
  rotate_left
  · show Act.put _ (some 8) _ = _
    simp only [Act.put, List.setIfInBounds_toArray, List.set_cons_zero, List.set_cons_succ, i64_w, i32_w]
    rfl
  refine one_ (i := 4) (N := some 9) #[true, true, true, true, true, false] rfl rfl (by kernel_rfl) (by decide) (fun K hK => ?_)
  refine goes_ Try.func22 (by kernel_rfl) rfl #[.agg #[.int .i64 a0_0, .int .i64 a0_1, .bool a0_2, .bool a0_3, .int .i64 a0_4, .int .i64 a0_5, .int .i64 a0_6, .int .i64 a0_7, .int .i64 a0_8, .int .i64 a0_9], .int .i64 t332] (by rfl) rfl rfl (by (try simp only [List.map_toArray, List.map_cons, List.map_nil]); first | done | rfl | (simp only [List.length_drop, List.length_take]; rfl)) ?_
  with_reducible refine (miradorref13_Colour.calls a0_0 a0_1 a0_2 a0_3 a0_4 a0_5 a0_6 a0_7 a0_8 a0_9 t332 t333 _ A4.out).mono ?_
  rintro e w8 ⟨rfl, hb⟩
  refine ⟨_, rfl, ?_⟩
  have n0_ := Aside0.mk (blk_below (g := gb331) (o := .cells #[.int .i64 a0_0, .int .i64 a0_1, .bool a0_2, .bool a0_3, .int .i64 a0_4, .int .i64 a0_5, .int .i64 a0_6, .int .i64 a0_7, .int .i64 a0_8, .int .i64 a0_9] 23 (0, 0)) (by (with_reducible repeat (first | refine blk_drewN ?_ _ | refine blk_drew ?_ | refine blk_alloc ?_ _)); exact BK331.out) hb)
  have n1_ := Aside0.mk (below_step (by repeat (first | (with_reducible first | exact HB.out | apply below_alloc | apply pw_below_drewN | apply below_drew1 | refine below_set ?_ GE331.out) | exact HB.out)) hb)
  clear BK331
  clear HB
  have BK331 := n0_
  have HB := n1_
  clear n0_ n1_
  (try clear hb)
  (try clear hb2)
  (try clear hk)
  (try clear hi)
  refine hK.out _ _ ⟨(blk_cell BK331.out 0).trans rfl, (blk_cell BK331.out 1).trans rfl, (blk_cell BK331.out 2).trans rfl, (blk_cell BK331.out 3).trans rfl, (blk_cell BK331.out 4).trans rfl, (blk_cell BK331.out 5).trans rfl, (blk_cell BK331.out 6).trans rfl, (blk_cell BK331.out 7).trans rfl, (blk_cell BK331.out 8).trans rfl, (blk_cell BK331.out 9).trans rfl⟩ (fun hHeld => ?_)
  clear hK K
  refine norm_ (a' := ?_) ?_ ?_
  rotate_left
  · show Act.put _ (some 9) _ = _
    simp only [Act.put, List.setIfInBounds_toArray, List.set_cons_zero, List.set_cons_succ, i64_w, i32_w]
    rfl
  refine pure_ (i := 5) (N := some 4) (v := ?_) (a' := ?_) #[true, true, true, true, true, true] rfl rfl (by kernel_rfl) (fun _ _ _ h => h) (Or.inl ⟨by rfl, ?_⟩) ?_ ?_
  rotate_left
  · intro w'
    go_simp
    with_reducible rfl
  rotate_left
  · simp only [Act.put, List.setIfInBounds_toArray, List.set_cons_zero, List.set_cons_succ, i64_w, i32_w]
    rfl
  refine done_ (by kernel_rfl) ?_
  try go_wp2
  go_ret
  exact ⟨by first | rfl | (simp [errW_none, errW_some] <;> rfl) | (simp [*, errW_none, errW_some] <;> rfl), by repeat (first | (with_reducible first | exact HB.out | apply below_alloc | apply pw_below_drewN | apply below_drew1 | refine below_set ?_ GE331.out) | exact HB.out)⟩

end Go.Proofs.Ytaielfghgmghgaa.X
