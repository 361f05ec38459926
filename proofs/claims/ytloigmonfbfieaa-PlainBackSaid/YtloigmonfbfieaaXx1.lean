/- What each Go function that these laws use answers: as a Lean function, with the proof that the machine's call comes to it. Written by a program of this session (xprint.py). -/
import Derived.Test.YtloigmonfbfieaaXx0
namespace Go.Proofs.Ytloigmonfbfieaa.X
open Go.RowKit Go.Proofs.YtloigmonfbfieaaW.PrintWords Go.Proofs.YtloigmonfbfieaaW.PrintLast Go.Proofs.YtloigmonfbfieaaW.PrintMore
attribute [local go_sem] max2_int min2_int max_two min_two max_three min_three max_four min_four   -- for this text's walks alone
set_option linter.unusedVariables false
set_option linter.unusedSimpArgs false

-- NOT PRINTED: function 27 (plain_values)

-- NOT PRINTED: function 69 (abi_NoEscape)

-- NOT PRINTED: function 52 (strings_Builder_copyCheck)

-- NOT PRINTED: function 28 (strings_Builder_WriteString)

-- NOT PRINTED: function 41 (format_parts)

/-! ### bits_Len32: function 73 -/
def bits_Len32.f (a0 : Int) : Option Int := if 0 ≤ a0 ∧ a0 ≤ 4294967295 then some (Lib.bitLen a0.toNat : Int) else none
theorem bits_Len32.calls (a0 : Int) (r : Int) (w : World) (h : bits_Len32.f a0 = some r) :
    Calls Try.prog 73 #[.int .u32 a0] w fun e w' => e = .returned (.int .i64 r) ∧ Drawn0 w w' := by
  unfold bits_Len32.f at h
  split at h
  case isFalse => exact absurd h (by simp)
  case isTrue hs =>
  obtain rfl := Option.some.inj h
  refine (Try.bits_Len32 a0 w hs.1 hs.2).mono ?_
  rintro e w' ⟨rfl, rfl⟩
  exact ⟨rfl, ⟨0, rfl⟩⟩

/-! ### bits_Len64: function 74 -/
def bits_Len64.f (a0 : Int) : Option Int := if 0 ≤ a0 ∧ a0 ≤ 18446744073709551615 then some (Lib.bitLen a0.toNat : Int) else none
theorem bits_Len64.calls (a0 : Int) (r : Int) (w : World) (h : bits_Len64.f a0 = some r) :
    Calls Try.prog 74 #[.int .u64 a0] w fun e w' => e = .returned (.int .i64 r) ∧ Drawn0 w w' := by
  unfold bits_Len64.f at h
  split at h
  case isFalse => exact absurd h (by simp)
  case isTrue hs =>
  obtain rfl := Option.some.inj h
  refine (Try.bits_Len64 a0 w hs.1 hs.2).mono ?_
  rintro e w' ⟨rfl, rfl⟩
  exact ⟨rfl, ⟨0, rfl⟩⟩

/-! ### bits_Len: function 61 -/
def bits_Len.f (a0 : Int) : Option Int := if 0 ≤ a0 ∧ a0 ≤ 18446744073709551615 then some (Lib.bitLen a0.toNat : Int) else none
theorem bits_Len.calls (a0 : Int) (r : Int) (w : World) (h : bits_Len.f a0 = some r) :
    Calls Try.prog 61 #[.int .u64 a0] w fun e w' => e = .returned (.int .i64 r) ∧ Drawn0 w w' := by
  unfold bits_Len.f at h
  split at h
  case isFalse => exact absurd h (by simp)
  case isTrue hs =>
  obtain rfl := Option.some.inj h
  refine (Try.bits_Len a0 w hs.1 hs.2).mono ?_
  rintro e w' ⟨rfl, rfl⟩
  exact ⟨rfl, ⟨0, rfl⟩⟩

/-! ### format_part_right: function 42 -/
def format_part_right.f (a0_0 : Int) (a0_1 : Int) (a1 : Int) : Option (Bool) := if a0_0 < 1 then (some false) else (if a0_0 > 65535 then (some false) else (if (Go.bits .and .i64 a0_0 (wrap64 (a0_0 + 1))) = 0 then (if a0_1 < 0 then (some false) else (if a0_1 > a1 then (some false) else ((bits_Len.f (IntKind.u64.wrap (a0_0))).bind fun t102 => (some (decide ((wrap64 (a0_1 + t102)) ≤ a1)))))) else (some false)))
set_option maxHeartbeats 8000000 in
set_option maxRecDepth 100000 in
theorem format_part_right.calls (a0_0 : Int) (a0_1 : Int) (a1 : Int) (r : Bool) (w : World) (h : format_part_right.f a0_0 a0_1 a1 = some r) :
    Calls Try.prog 42 #[.agg #[.int .i64 a0_0, .int .i64 a0_1], .int .i64 a1] w fun e w' => e = .returned (.bool r) ∧ Below w.heap.size w w' := by
  have hu66 := Try.underlying66
  have HB := Aside0.mk (Below.refl w.heap.size w)
  have H : (if a0_0 < 1 then (some false) else (if a0_0 > 65535 then (some false) else (if (Go.bits .and .i64 a0_0 (wrap64 (a0_0 + 1))) = 0 then (if a0_1 < 0 then (some false) else (if a0_1 > a1 then (some false) else ((bits_Len.f (IntKind.u64.wrap (a0_0))).bind fun t102 => (some (decide ((wrap64 (a0_1 + t102)) ≤ a1)))))) else (some false)))) = some r := h
  clear h
  by_cases c3 : a0_0 < 1
  · rw [if_pos c3] at H
    have c3b0 : decide (a0_0 < 1) = true := decide_eq_true c3
    clear c3
    obtain rfl := Option.some.inj H
    go_enter Try.func42, Try.ntmps42
    go_wp2_with (first | ((with_reducible refine gate_dst (N := 2) rfl ?_); refine box_event ?hg (N := 2) ?hd (cs := #[.int .i64 a0_0, .int .i64 a0_1]) (t := 66) ?hr ?_; (case hd => rfl); (case hg => rfl); (case hr => first | (go_simp; done) | (go_simp; rfl)); intro gb101 hg w4 hbox hb; have n0_ := Aside0.mk (below_step (by repeat (first | (with_reducible first | exact HB.out | apply below_alloc | apply pw_below_drewN | apply below_drew1) | exact HB.out)) hb); have n1_ := Aside0.mk (hbox); have n2_ := Aside0.mk ((by rw [hg]; exact (below_size (by repeat (first | (with_reducible first | exact HB.out | apply below_alloc | apply pw_below_drewN | apply below_drew1) | exact HB.out))) : w.heap.size ≤ gb101)); have n3_ := Aside0.mk ((by rw [hg]; exact (below_size (by repeat (first | (with_reducible first | exact HB.out | apply below_alloc | apply pw_below_drewN | apply below_drew1) | exact HB.out))) : w.heap.size ≤ gb101)); clear HB; have HB := n0_; have BK101 := n1_; have GW101 := n2_; have GE101 := n3_; clear n0_ n1_ n2_ n3_; clear hb hbox hg; have hcz5_0 : w4.cell? ⟨gb101, 0, none⟩ = some (.int .i64 a0_0) := (blk_cell BK101.out 0).trans rfl; have hcz5_1 : w4.cell? ⟨gb101, 1, none⟩ = some (.int .i64 a0_1) := (blk_cell BK101.out 1).trans rfl; have hfz5_0 := blk_frozen BK101.out 0; have hfz5_1 := blk_frozen BK101.out 1))
    repeat (go_quiet (first | ((with_reducible refine gate_dst (N := 2) rfl ?_); refine box_event ?hg (N := 2) ?hd (cs := #[.int .i64 a0_0, .int .i64 a0_1]) (t := 66) ?hr ?_; (case hd => rfl); (case hg => rfl); (case hr => first | (go_simp; done) | (go_simp; rfl)); intro gb101 hg w4 hbox hb; have n0_ := Aside0.mk (below_step (by repeat (first | (with_reducible first | exact HB.out | apply below_alloc | apply pw_below_drewN | apply below_drew1) | exact HB.out)) hb); have n1_ := Aside0.mk (hbox); have n2_ := Aside0.mk ((by rw [hg]; exact (below_size (by repeat (first | (with_reducible first | exact HB.out | apply below_alloc | apply pw_below_drewN | apply below_drew1) | exact HB.out))) : w.heap.size ≤ gb101)); have n3_ := Aside0.mk ((by rw [hg]; exact (below_size (by repeat (first | (with_reducible first | exact HB.out | apply below_alloc | apply pw_below_drewN | apply below_drew1) | exact HB.out))) : w.heap.size ≤ gb101)); clear HB; have HB := n0_; have BK101 := n1_; have GW101 := n2_; have GE101 := n3_; clear n0_ n1_ n2_ n3_; clear hb hbox hg; have hcz5_0 : w4.cell? ⟨gb101, 0, none⟩ = some (.int .i64 a0_0) := (blk_cell BK101.out 0).trans rfl; have hcz5_1 : w4.cell? ⟨gb101, 1, none⟩ = some (.int .i64 a0_1) := (blk_cell BK101.out 1).trans rfl; have hfz5_0 := blk_frozen BK101.out 0; have hfz5_1 := blk_frozen BK101.out 1)); try go_wp2_with (first | ((with_reducible refine gate_dst (N := 2) rfl ?_); refine box_event ?hg (N := 2) ?hd (cs := #[.int .i64 a0_0, .int .i64 a0_1]) (t := 66) ?hr ?_; (case hd => rfl); (case hg => rfl); (case hr => first | (go_simp; done) | (go_simp; rfl)); intro gb101 hg w4 hbox hb; have n0_ := Aside0.mk (below_step (by repeat (first | (with_reducible first | exact HB.out | apply below_alloc | apply pw_below_drewN | apply below_drew1) | exact HB.out)) hb); have n1_ := Aside0.mk (hbox); have n2_ := Aside0.mk ((by rw [hg]; exact (below_size (by repeat (first | (with_reducible first | exact HB.out | apply below_alloc | apply pw_below_drewN | apply below_drew1) | exact HB.out))) : w.heap.size ≤ gb101)); have n3_ := Aside0.mk ((by rw [hg]; exact (below_size (by repeat (first | (with_reducible first | exact HB.out | apply below_alloc | apply pw_below_drewN | apply below_drew1) | exact HB.out))) : w.heap.size ≤ gb101)); clear HB; have HB := n0_; have BK101 := n1_; have GW101 := n2_; have GE101 := n3_; clear n0_ n1_ n2_ n3_; clear hb hbox hg; have hcz5_0 : w4.cell? ⟨gb101, 0, none⟩ = some (.int .i64 a0_0) := (blk_cell BK101.out 0).trans rfl; have hcz5_1 : w4.cell? ⟨gb101, 1, none⟩ = some (.int .i64 a0_1) := (blk_cell BK101.out 1).trans rfl; have hfz5_0 := blk_frozen BK101.out 0; have hfz5_1 := blk_frozen BK101.out 1)))
    go_ret
    exact ⟨by first | rfl | (simp [errW_none, errW_some] <;> rfl) | (simp [*, errW_none, errW_some] <;> rfl), by repeat (first | (with_reducible first | exact HB.out | apply below_alloc | apply pw_below_drewN | apply below_drew1 | refine below_set ?_ GE101.out) | exact HB.out)⟩
  · rw [if_neg c3] at H
    have c3b0 : decide (a0_0 < 1) = false := decide_eq_false c3
    clear c3
    by_cases c6 : a0_0 > 65535
    · rw [if_pos c6] at H
      have c6b0 : decide (65535 < a0_0) = true := decide_eq_true c6
      clear c6
      obtain rfl := Option.some.inj H
      go_enter Try.func42, Try.ntmps42
      go_wp2_with (first | ((with_reducible refine gate_dst (N := 2) rfl ?_); refine box_event ?hg (N := 2) ?hd (cs := #[.int .i64 a0_0, .int .i64 a0_1]) (t := 66) ?hr ?_; (case hd => rfl); (case hg => rfl); (case hr => first | (go_simp; done) | (go_simp; rfl)); intro gb101 hg w7 hbox hb; have n0_ := Aside0.mk (below_step (by repeat (first | (with_reducible first | exact HB.out | apply below_alloc | apply pw_below_drewN | apply below_drew1) | exact HB.out)) hb); have n1_ := Aside0.mk (hbox); have n2_ := Aside0.mk ((by rw [hg]; exact (below_size (by repeat (first | (with_reducible first | exact HB.out | apply below_alloc | apply pw_below_drewN | apply below_drew1) | exact HB.out))) : w.heap.size ≤ gb101)); have n3_ := Aside0.mk ((by rw [hg]; exact (below_size (by repeat (first | (with_reducible first | exact HB.out | apply below_alloc | apply pw_below_drewN | apply below_drew1) | exact HB.out))) : w.heap.size ≤ gb101)); clear HB; have HB := n0_; have BK101 := n1_; have GW101 := n2_; have GE101 := n3_; clear n0_ n1_ n2_ n3_; clear hb hbox hg; have hcz8_0 : w7.cell? ⟨gb101, 0, none⟩ = some (.int .i64 a0_0) := (blk_cell BK101.out 0).trans rfl; have hcz8_1 : w7.cell? ⟨gb101, 1, none⟩ = some (.int .i64 a0_1) := (blk_cell BK101.out 1).trans rfl; have hfz8_0 := blk_frozen BK101.out 0; have hfz8_1 := blk_frozen BK101.out 1))
      repeat (go_quiet (first | ((with_reducible refine gate_dst (N := 2) rfl ?_); refine box_event ?hg (N := 2) ?hd (cs := #[.int .i64 a0_0, .int .i64 a0_1]) (t := 66) ?hr ?_; (case hd => rfl); (case hg => rfl); (case hr => first | (go_simp; done) | (go_simp; rfl)); intro gb101 hg w7 hbox hb; have n0_ := Aside0.mk (below_step (by repeat (first | (with_reducible first | exact HB.out | apply below_alloc | apply pw_below_drewN | apply below_drew1) | exact HB.out)) hb); have n1_ := Aside0.mk (hbox); have n2_ := Aside0.mk ((by rw [hg]; exact (below_size (by repeat (first | (with_reducible first | exact HB.out | apply below_alloc | apply pw_below_drewN | apply below_drew1) | exact HB.out))) : w.heap.size ≤ gb101)); have n3_ := Aside0.mk ((by rw [hg]; exact (below_size (by repeat (first | (with_reducible first | exact HB.out | apply below_alloc | apply pw_below_drewN | apply below_drew1) | exact HB.out))) : w.heap.size ≤ gb101)); clear HB; have HB := n0_; have BK101 := n1_; have GW101 := n2_; have GE101 := n3_; clear n0_ n1_ n2_ n3_; clear hb hbox hg; have hcz8_0 : w7.cell? ⟨gb101, 0, none⟩ = some (.int .i64 a0_0) := (blk_cell BK101.out 0).trans rfl; have hcz8_1 : w7.cell? ⟨gb101, 1, none⟩ = some (.int .i64 a0_1) := (blk_cell BK101.out 1).trans rfl; have hfz8_0 := blk_frozen BK101.out 0; have hfz8_1 := blk_frozen BK101.out 1)); try go_wp2_with (first | ((with_reducible refine gate_dst (N := 2) rfl ?_); refine box_event ?hg (N := 2) ?hd (cs := #[.int .i64 a0_0, .int .i64 a0_1]) (t := 66) ?hr ?_; (case hd => rfl); (case hg => rfl); (case hr => first | (go_simp; done) | (go_simp; rfl)); intro gb101 hg w7 hbox hb; have n0_ := Aside0.mk (below_step (by repeat (first | (with_reducible first | exact HB.out | apply below_alloc | apply pw_below_drewN | apply below_drew1) | exact HB.out)) hb); have n1_ := Aside0.mk (hbox); have n2_ := Aside0.mk ((by rw [hg]; exact (below_size (by repeat (first | (with_reducible first | exact HB.out | apply below_alloc | apply pw_below_drewN | apply below_drew1) | exact HB.out))) : w.heap.size ≤ gb101)); have n3_ := Aside0.mk ((by rw [hg]; exact (below_size (by repeat (first | (with_reducible first | exact HB.out | apply below_alloc | apply pw_below_drewN | apply below_drew1) | exact HB.out))) : w.heap.size ≤ gb101)); clear HB; have HB := n0_; have BK101 := n1_; have GW101 := n2_; have GE101 := n3_; clear n0_ n1_ n2_ n3_; clear hb hbox hg; have hcz8_0 : w7.cell? ⟨gb101, 0, none⟩ = some (.int .i64 a0_0) := (blk_cell BK101.out 0).trans rfl; have hcz8_1 : w7.cell? ⟨gb101, 1, none⟩ = some (.int .i64 a0_1) := (blk_cell BK101.out 1).trans rfl; have hfz8_0 := blk_frozen BK101.out 0; have hfz8_1 := blk_frozen BK101.out 1)))
      go_ret
      exact ⟨by first | rfl | (simp [errW_none, errW_some] <;> rfl) | (simp [*, errW_none, errW_some] <;> rfl), by repeat (first | (with_reducible first | exact HB.out | apply below_alloc | apply pw_below_drewN | apply below_drew1 | refine below_set ?_ GE101.out) | exact HB.out)⟩
    · rw [if_neg c6] at H
      have c6b0 : decide (65535 < a0_0) = false := decide_eq_false c6
      clear c6
      by_cases c9 : (Go.bits .and .i64 a0_0 (wrap64 (a0_0 + 1))) = 0
      · rw [if_pos c9] at H
        have c9b0 : ((Go.bits .and .i64 a0_0 (wrap64 (a0_0 + 1))) == 0) = true := beq_iff_eq.mpr c9
        have c9b1 : ((Go.bits .and .i64 a0_0 (wrap64 (a0_0 + 1))) != 0) = false := bne_eq_false_iff_eq.mpr c9
        clear c9
        by_cases c10 : a0_1 < 0
        · rw [if_pos c10] at H
          have c10b0 : decide (a0_1 < 0) = true := decide_eq_true c10
          clear c10
          obtain rfl := Option.some.inj H
          go_enter Try.func42, Try.ntmps42
          go_wp2_with (first | ((with_reducible refine gate_dst (N := 2) rfl ?_); refine box_event ?hg (N := 2) ?hd (cs := #[.int .i64 a0_0, .int .i64 a0_1]) (t := 66) ?hr ?_; (case hd => rfl); (case hg => rfl); (case hr => first | (go_simp; done) | (go_simp; rfl)); intro gb101 hg w11 hbox hb; have n0_ := Aside0.mk (below_step (by repeat (first | (with_reducible first | exact HB.out | apply below_alloc | apply pw_below_drewN | apply below_drew1) | exact HB.out)) hb); have n1_ := Aside0.mk (hbox); have n2_ := Aside0.mk ((by rw [hg]; exact (below_size (by repeat (first | (with_reducible first | exact HB.out | apply below_alloc | apply pw_below_drewN | apply below_drew1) | exact HB.out))) : w.heap.size ≤ gb101)); have n3_ := Aside0.mk ((by rw [hg]; exact (below_size (by repeat (first | (with_reducible first | exact HB.out | apply below_alloc | apply pw_below_drewN | apply below_drew1) | exact HB.out))) : w.heap.size ≤ gb101)); clear HB; have HB := n0_; have BK101 := n1_; have GW101 := n2_; have GE101 := n3_; clear n0_ n1_ n2_ n3_; clear hb hbox hg; have hcz12_0 : w11.cell? ⟨gb101, 0, none⟩ = some (.int .i64 a0_0) := (blk_cell BK101.out 0).trans rfl; have hcz12_1 : w11.cell? ⟨gb101, 1, none⟩ = some (.int .i64 a0_1) := (blk_cell BK101.out 1).trans rfl; have hfz12_0 := blk_frozen BK101.out 0; have hfz12_1 := blk_frozen BK101.out 1))
          repeat (go_quiet (first | ((with_reducible refine gate_dst (N := 2) rfl ?_); refine box_event ?hg (N := 2) ?hd (cs := #[.int .i64 a0_0, .int .i64 a0_1]) (t := 66) ?hr ?_; (case hd => rfl); (case hg => rfl); (case hr => first | (go_simp; done) | (go_simp; rfl)); intro gb101 hg w11 hbox hb; have n0_ := Aside0.mk (below_step (by repeat (first | (with_reducible first | exact HB.out | apply below_alloc | apply pw_below_drewN | apply below_drew1) | exact HB.out)) hb); have n1_ := Aside0.mk (hbox); have n2_ := Aside0.mk ((by rw [hg]; exact (below_size (by repeat (first | (with_reducible first | exact HB.out | apply below_alloc | apply pw_below_drewN | apply below_drew1) | exact HB.out))) : w.heap.size ≤ gb101)); have n3_ := Aside0.mk ((by rw [hg]; exact (below_size (by repeat (first | (with_reducible first | exact HB.out | apply below_alloc | apply pw_below_drewN | apply below_drew1) | exact HB.out))) : w.heap.size ≤ gb101)); clear HB; have HB := n0_; have BK101 := n1_; have GW101 := n2_; have GE101 := n3_; clear n0_ n1_ n2_ n3_; clear hb hbox hg; have hcz12_0 : w11.cell? ⟨gb101, 0, none⟩ = some (.int .i64 a0_0) := (blk_cell BK101.out 0).trans rfl; have hcz12_1 : w11.cell? ⟨gb101, 1, none⟩ = some (.int .i64 a0_1) := (blk_cell BK101.out 1).trans rfl; have hfz12_0 := blk_frozen BK101.out 0; have hfz12_1 := blk_frozen BK101.out 1)); try go_wp2_with (first | ((with_reducible refine gate_dst (N := 2) rfl ?_); refine box_event ?hg (N := 2) ?hd (cs := #[.int .i64 a0_0, .int .i64 a0_1]) (t := 66) ?hr ?_; (case hd => rfl); (case hg => rfl); (case hr => first | (go_simp; done) | (go_simp; rfl)); intro gb101 hg w11 hbox hb; have n0_ := Aside0.mk (below_step (by repeat (first | (with_reducible first | exact HB.out | apply below_alloc | apply pw_below_drewN | apply below_drew1) | exact HB.out)) hb); have n1_ := Aside0.mk (hbox); have n2_ := Aside0.mk ((by rw [hg]; exact (below_size (by repeat (first | (with_reducible first | exact HB.out | apply below_alloc | apply pw_below_drewN | apply below_drew1) | exact HB.out))) : w.heap.size ≤ gb101)); have n3_ := Aside0.mk ((by rw [hg]; exact (below_size (by repeat (first | (with_reducible first | exact HB.out | apply below_alloc | apply pw_below_drewN | apply below_drew1) | exact HB.out))) : w.heap.size ≤ gb101)); clear HB; have HB := n0_; have BK101 := n1_; have GW101 := n2_; have GE101 := n3_; clear n0_ n1_ n2_ n3_; clear hb hbox hg; have hcz12_0 : w11.cell? ⟨gb101, 0, none⟩ = some (.int .i64 a0_0) := (blk_cell BK101.out 0).trans rfl; have hcz12_1 : w11.cell? ⟨gb101, 1, none⟩ = some (.int .i64 a0_1) := (blk_cell BK101.out 1).trans rfl; have hfz12_0 := blk_frozen BK101.out 0; have hfz12_1 := blk_frozen BK101.out 1)))
          go_ret
          exact ⟨by first | rfl | (simp [errW_none, errW_some] <;> rfl) | (simp [*, errW_none, errW_some] <;> rfl), by repeat (first | (with_reducible first | exact HB.out | apply below_alloc | apply pw_below_drewN | apply below_drew1 | refine below_set ?_ GE101.out) | exact HB.out)⟩
        · rw [if_neg c10] at H
          have c10b0 : decide (a0_1 < 0) = false := decide_eq_false c10
          clear c10
          by_cases c13 : a0_1 > a1
          · rw [if_pos c13] at H
            have c13b0 : decide (a1 < a0_1) = true := decide_eq_true c13
            clear c13
            obtain rfl := Option.some.inj H
            go_enter Try.func42, Try.ntmps42
            go_wp2_with (first | ((with_reducible refine gate_dst (N := 2) rfl ?_); refine box_event ?hg (N := 2) ?hd (cs := #[.int .i64 a0_0, .int .i64 a0_1]) (t := 66) ?hr ?_; (case hd => rfl); (case hg => rfl); (case hr => first | (go_simp; done) | (go_simp; rfl)); intro gb101 hg w14 hbox hb; have n0_ := Aside0.mk (below_step (by repeat (first | (with_reducible first | exact HB.out | apply below_alloc | apply pw_below_drewN | apply below_drew1) | exact HB.out)) hb); have n1_ := Aside0.mk (hbox); have n2_ := Aside0.mk ((by rw [hg]; exact (below_size (by repeat (first | (with_reducible first | exact HB.out | apply below_alloc | apply pw_below_drewN | apply below_drew1) | exact HB.out))) : w.heap.size ≤ gb101)); have n3_ := Aside0.mk ((by rw [hg]; exact (below_size (by repeat (first | (with_reducible first | exact HB.out | apply below_alloc | apply pw_below_drewN | apply below_drew1) | exact HB.out))) : w.heap.size ≤ gb101)); clear HB; have HB := n0_; have BK101 := n1_; have GW101 := n2_; have GE101 := n3_; clear n0_ n1_ n2_ n3_; clear hb hbox hg; have hcz15_0 : w14.cell? ⟨gb101, 0, none⟩ = some (.int .i64 a0_0) := (blk_cell BK101.out 0).trans rfl; have hcz15_1 : w14.cell? ⟨gb101, 1, none⟩ = some (.int .i64 a0_1) := (blk_cell BK101.out 1).trans rfl; have hfz15_0 := blk_frozen BK101.out 0; have hfz15_1 := blk_frozen BK101.out 1))
            repeat (go_quiet (first | ((with_reducible refine gate_dst (N := 2) rfl ?_); refine box_event ?hg (N := 2) ?hd (cs := #[.int .i64 a0_0, .int .i64 a0_1]) (t := 66) ?hr ?_; (case hd => rfl); (case hg => rfl); (case hr => first | (go_simp; done) | (go_simp; rfl)); intro gb101 hg w14 hbox hb; have n0_ := Aside0.mk (below_step (by repeat (first | (with_reducible first | exact HB.out | apply below_alloc | apply pw_below_drewN | apply below_drew1) | exact HB.out)) hb); have n1_ := Aside0.mk (hbox); have n2_ := Aside0.mk ((by rw [hg]; exact (below_size (by repeat (first | (with_reducible first | exact HB.out | apply below_alloc | apply pw_below_drewN | apply below_drew1) | exact HB.out))) : w.heap.size ≤ gb101)); have n3_ := Aside0.mk ((by rw [hg]; exact (below_size (by repeat (first | (with_reducible first | exact HB.out | apply below_alloc | apply pw_below_drewN | apply below_drew1) | exact HB.out))) : w.heap.size ≤ gb101)); clear HB; have HB := n0_; have BK101 := n1_; have GW101 := n2_; have GE101 := n3_; clear n0_ n1_ n2_ n3_; clear hb hbox hg; have hcz15_0 : w14.cell? ⟨gb101, 0, none⟩ = some (.int .i64 a0_0) := (blk_cell BK101.out 0).trans rfl; have hcz15_1 : w14.cell? ⟨gb101, 1, none⟩ = some (.int .i64 a0_1) := (blk_cell BK101.out 1).trans rfl; have hfz15_0 := blk_frozen BK101.out 0; have hfz15_1 := blk_frozen BK101.out 1)); try go_wp2_with (first | ((with_reducible refine gate_dst (N := 2) rfl ?_); refine box_event ?hg (N := 2) ?hd (cs := #[.int .i64 a0_0, .int .i64 a0_1]) (t := 66) ?hr ?_; (case hd => rfl); (case hg => rfl); (case hr => first | (go_simp; done) | (go_simp; rfl)); intro gb101 hg w14 hbox hb; have n0_ := Aside0.mk (below_step (by repeat (first | (with_reducible first | exact HB.out | apply below_alloc | apply pw_below_drewN | apply below_drew1) | exact HB.out)) hb); have n1_ := Aside0.mk (hbox); have n2_ := Aside0.mk ((by rw [hg]; exact (below_size (by repeat (first | (with_reducible first | exact HB.out | apply below_alloc | apply pw_below_drewN | apply below_drew1) | exact HB.out))) : w.heap.size ≤ gb101)); have n3_ := Aside0.mk ((by rw [hg]; exact (below_size (by repeat (first | (with_reducible first | exact HB.out | apply below_alloc | apply pw_below_drewN | apply below_drew1) | exact HB.out))) : w.heap.size ≤ gb101)); clear HB; have HB := n0_; have BK101 := n1_; have GW101 := n2_; have GE101 := n3_; clear n0_ n1_ n2_ n3_; clear hb hbox hg; have hcz15_0 : w14.cell? ⟨gb101, 0, none⟩ = some (.int .i64 a0_0) := (blk_cell BK101.out 0).trans rfl; have hcz15_1 : w14.cell? ⟨gb101, 1, none⟩ = some (.int .i64 a0_1) := (blk_cell BK101.out 1).trans rfl; have hfz15_0 := blk_frozen BK101.out 0; have hfz15_1 := blk_frozen BK101.out 1)))
            go_ret
            exact ⟨by first | rfl | (simp [errW_none, errW_some] <;> rfl) | (simp [*, errW_none, errW_some] <;> rfl), by repeat (first | (with_reducible first | exact HB.out | apply below_alloc | apply pw_below_drewN | apply below_drew1 | refine below_set ?_ GE101.out) | exact HB.out)⟩
          · rw [if_neg c13] at H
            have c13b0 : decide (a1 < a0_1) = false := decide_eq_false c13
            clear c13
            replace H := Option.bind_eq_some_iff.mp H
            obtain ⟨t102, A160, H⟩ := H
            replace H : (some (decide ((wrap64 (a0_1 + t102)) ≤ a1))) = some r := H
            have A16 := Aside0.mk A160
            clear A160
            obtain rfl := Option.some.inj H
            go_enter Try.func42, Try.ntmps42
            go_wp2_with (first | ((with_reducible refine gate_dst (N := 2) rfl ?_); refine box_event ?hg (N := 2) ?hd (cs := #[.int .i64 a0_0, .int .i64 a0_1]) (t := 66) ?hr ?_; (case hd => rfl); (case hg => rfl); (case hr => first | (go_simp; done) | (go_simp; rfl)); intro gb101 hg w17 hbox hb; have n0_ := Aside0.mk (below_step (by repeat (first | (with_reducible first | exact HB.out | apply below_alloc | apply pw_below_drewN | apply below_drew1) | exact HB.out)) hb); have n1_ := Aside0.mk (hbox); have n2_ := Aside0.mk ((by rw [hg]; exact (below_size (by repeat (first | (with_reducible first | exact HB.out | apply below_alloc | apply pw_below_drewN | apply below_drew1) | exact HB.out))) : w.heap.size ≤ gb101)); have n3_ := Aside0.mk ((by rw [hg]; exact (below_size (by repeat (first | (with_reducible first | exact HB.out | apply below_alloc | apply pw_below_drewN | apply below_drew1) | exact HB.out))) : w.heap.size ≤ gb101)); clear HB; have HB := n0_; have BK101 := n1_; have GW101 := n2_; have GE101 := n3_; clear n0_ n1_ n2_ n3_; clear hb hbox hg; have hcz18_0 : w17.cell? ⟨gb101, 0, none⟩ = some (.int .i64 a0_0) := (blk_cell BK101.out 0).trans rfl; have hcz18_1 : w17.cell? ⟨gb101, 1, none⟩ = some (.int .i64 a0_1) := (blk_cell BK101.out 1).trans rfl; have hfz18_0 := blk_frozen BK101.out 0; have hfz18_1 := blk_frozen BK101.out 1) | (go_at_call 61; (with_reducible refine (bits_Len.calls (IntKind.u64.wrap (a0_0)) t102 _ A16.out).mono ?_); rintro e w' ⟨rfl, ⟨nd, rfl⟩⟩; (try first | exact ⟨rfl, _, World.drewN_drewN _ _ _⟩ | exact ⟨rfl, _, Eq.trans (World.drewN_drewN _ _ _) (congrArg (World.drewN _) (Nat.add_assoc _ _ _))⟩)))
            repeat (go_quiet (first | ((with_reducible refine gate_dst (N := 2) rfl ?_); refine box_event ?hg (N := 2) ?hd (cs := #[.int .i64 a0_0, .int .i64 a0_1]) (t := 66) ?hr ?_; (case hd => rfl); (case hg => rfl); (case hr => first | (go_simp; done) | (go_simp; rfl)); intro gb101 hg w17 hbox hb; have n0_ := Aside0.mk (below_step (by repeat (first | (with_reducible first | exact HB.out | apply below_alloc | apply pw_below_drewN | apply below_drew1) | exact HB.out)) hb); have n1_ := Aside0.mk (hbox); have n2_ := Aside0.mk ((by rw [hg]; exact (below_size (by repeat (first | (with_reducible first | exact HB.out | apply below_alloc | apply pw_below_drewN | apply below_drew1) | exact HB.out))) : w.heap.size ≤ gb101)); have n3_ := Aside0.mk ((by rw [hg]; exact (below_size (by repeat (first | (with_reducible first | exact HB.out | apply below_alloc | apply pw_below_drewN | apply below_drew1) | exact HB.out))) : w.heap.size ≤ gb101)); clear HB; have HB := n0_; have BK101 := n1_; have GW101 := n2_; have GE101 := n3_; clear n0_ n1_ n2_ n3_; clear hb hbox hg; have hcz18_0 : w17.cell? ⟨gb101, 0, none⟩ = some (.int .i64 a0_0) := (blk_cell BK101.out 0).trans rfl; have hcz18_1 : w17.cell? ⟨gb101, 1, none⟩ = some (.int .i64 a0_1) := (blk_cell BK101.out 1).trans rfl; have hfz18_0 := blk_frozen BK101.out 0; have hfz18_1 := blk_frozen BK101.out 1) | (go_at_call 61; (with_reducible refine (bits_Len.calls (IntKind.u64.wrap (a0_0)) t102 _ A16.out).mono ?_); rintro e w' ⟨rfl, ⟨nd, rfl⟩⟩; (try first | exact ⟨rfl, _, World.drewN_drewN _ _ _⟩ | exact ⟨rfl, _, Eq.trans (World.drewN_drewN _ _ _) (congrArg (World.drewN _) (Nat.add_assoc _ _ _))⟩))); try go_wp2_with (first | ((with_reducible refine gate_dst (N := 2) rfl ?_); refine box_event ?hg (N := 2) ?hd (cs := #[.int .i64 a0_0, .int .i64 a0_1]) (t := 66) ?hr ?_; (case hd => rfl); (case hg => rfl); (case hr => first | (go_simp; done) | (go_simp; rfl)); intro gb101 hg w17 hbox hb; have n0_ := Aside0.mk (below_step (by repeat (first | (with_reducible first | exact HB.out | apply below_alloc | apply pw_below_drewN | apply below_drew1) | exact HB.out)) hb); have n1_ := Aside0.mk (hbox); have n2_ := Aside0.mk ((by rw [hg]; exact (below_size (by repeat (first | (with_reducible first | exact HB.out | apply below_alloc | apply pw_below_drewN | apply below_drew1) | exact HB.out))) : w.heap.size ≤ gb101)); have n3_ := Aside0.mk ((by rw [hg]; exact (below_size (by repeat (first | (with_reducible first | exact HB.out | apply below_alloc | apply pw_below_drewN | apply below_drew1) | exact HB.out))) : w.heap.size ≤ gb101)); clear HB; have HB := n0_; have BK101 := n1_; have GW101 := n2_; have GE101 := n3_; clear n0_ n1_ n2_ n3_; clear hb hbox hg; have hcz18_0 : w17.cell? ⟨gb101, 0, none⟩ = some (.int .i64 a0_0) := (blk_cell BK101.out 0).trans rfl; have hcz18_1 : w17.cell? ⟨gb101, 1, none⟩ = some (.int .i64 a0_1) := (blk_cell BK101.out 1).trans rfl; have hfz18_0 := blk_frozen BK101.out 0; have hfz18_1 := blk_frozen BK101.out 1) | (go_at_call 61; (with_reducible refine (bits_Len.calls (IntKind.u64.wrap (a0_0)) t102 _ A16.out).mono ?_); rintro e w' ⟨rfl, ⟨nd, rfl⟩⟩; (try first | exact ⟨rfl, _, World.drewN_drewN _ _ _⟩ | exact ⟨rfl, _, Eq.trans (World.drewN_drewN _ _ _) (congrArg (World.drewN _) (Nat.add_assoc _ _ _))⟩))))
            go_ret
            exact ⟨by first | rfl | (simp [errW_none, errW_some] <;> rfl) | (simp [*, errW_none, errW_some] <;> rfl), by repeat (first | (with_reducible first | exact HB.out | apply below_alloc | apply pw_below_drewN | apply below_drew1 | refine below_set ?_ GE101.out) | exact HB.out)⟩
      · rw [if_neg c9] at H
        have c9b0 : ((Go.bits .and .i64 a0_0 (wrap64 (a0_0 + 1))) == 0) = false := beq_eq_false_iff_ne.mpr c9
        have c9b1 : ((Go.bits .and .i64 a0_0 (wrap64 (a0_0 + 1))) != 0) = true := bne_iff_ne.mpr c9
        obtain rfl := Option.some.inj H
        go_enter Try.func42, Try.ntmps42
        go_wp2_with (first | ((with_reducible refine gate_dst (N := 2) rfl ?_); refine box_event ?hg (N := 2) ?hd (cs := #[.int .i64 a0_0, .int .i64 a0_1]) (t := 66) ?hr ?_; (case hd => rfl); (case hg => rfl); (case hr => first | (go_simp; done) | (go_simp; rfl)); intro gb101 hg w19 hbox hb; have n0_ := Aside0.mk (below_step (by repeat (first | (with_reducible first | exact HB.out | apply below_alloc | apply pw_below_drewN | apply below_drew1) | exact HB.out)) hb); have n1_ := Aside0.mk (hbox); have n2_ := Aside0.mk ((by rw [hg]; exact (below_size (by repeat (first | (with_reducible first | exact HB.out | apply below_alloc | apply pw_below_drewN | apply below_drew1) | exact HB.out))) : w.heap.size ≤ gb101)); have n3_ := Aside0.mk ((by rw [hg]; exact (below_size (by repeat (first | (with_reducible first | exact HB.out | apply below_alloc | apply pw_below_drewN | apply below_drew1) | exact HB.out))) : w.heap.size ≤ gb101)); clear HB; have HB := n0_; have BK101 := n1_; have GW101 := n2_; have GE101 := n3_; clear n0_ n1_ n2_ n3_; clear hb hbox hg; have hcz20_0 : w19.cell? ⟨gb101, 0, none⟩ = some (.int .i64 a0_0) := (blk_cell BK101.out 0).trans rfl; have hcz20_1 : w19.cell? ⟨gb101, 1, none⟩ = some (.int .i64 a0_1) := (blk_cell BK101.out 1).trans rfl; have hfz20_0 := blk_frozen BK101.out 0; have hfz20_1 := blk_frozen BK101.out 1))
        repeat (go_quiet (first | ((with_reducible refine gate_dst (N := 2) rfl ?_); refine box_event ?hg (N := 2) ?hd (cs := #[.int .i64 a0_0, .int .i64 a0_1]) (t := 66) ?hr ?_; (case hd => rfl); (case hg => rfl); (case hr => first | (go_simp; done) | (go_simp; rfl)); intro gb101 hg w19 hbox hb; have n0_ := Aside0.mk (below_step (by repeat (first | (with_reducible first | exact HB.out | apply below_alloc | apply pw_below_drewN | apply below_drew1) | exact HB.out)) hb); have n1_ := Aside0.mk (hbox); have n2_ := Aside0.mk ((by rw [hg]; exact (below_size (by repeat (first | (with_reducible first | exact HB.out | apply below_alloc | apply pw_below_drewN | apply below_drew1) | exact HB.out))) : w.heap.size ≤ gb101)); have n3_ := Aside0.mk ((by rw [hg]; exact (below_size (by repeat (first | (with_reducible first | exact HB.out | apply below_alloc | apply pw_below_drewN | apply below_drew1) | exact HB.out))) : w.heap.size ≤ gb101)); clear HB; have HB := n0_; have BK101 := n1_; have GW101 := n2_; have GE101 := n3_; clear n0_ n1_ n2_ n3_; clear hb hbox hg; have hcz20_0 : w19.cell? ⟨gb101, 0, none⟩ = some (.int .i64 a0_0) := (blk_cell BK101.out 0).trans rfl; have hcz20_1 : w19.cell? ⟨gb101, 1, none⟩ = some (.int .i64 a0_1) := (blk_cell BK101.out 1).trans rfl; have hfz20_0 := blk_frozen BK101.out 0; have hfz20_1 := blk_frozen BK101.out 1)); try go_wp2_with (first | ((with_reducible refine gate_dst (N := 2) rfl ?_); refine box_event ?hg (N := 2) ?hd (cs := #[.int .i64 a0_0, .int .i64 a0_1]) (t := 66) ?hr ?_; (case hd => rfl); (case hg => rfl); (case hr => first | (go_simp; done) | (go_simp; rfl)); intro gb101 hg w19 hbox hb; have n0_ := Aside0.mk (below_step (by repeat (first | (with_reducible first | exact HB.out | apply below_alloc | apply pw_below_drewN | apply below_drew1) | exact HB.out)) hb); have n1_ := Aside0.mk (hbox); have n2_ := Aside0.mk ((by rw [hg]; exact (below_size (by repeat (first | (with_reducible first | exact HB.out | apply below_alloc | apply pw_below_drewN | apply below_drew1) | exact HB.out))) : w.heap.size ≤ gb101)); have n3_ := Aside0.mk ((by rw [hg]; exact (below_size (by repeat (first | (with_reducible first | exact HB.out | apply below_alloc | apply pw_below_drewN | apply below_drew1) | exact HB.out))) : w.heap.size ≤ gb101)); clear HB; have HB := n0_; have BK101 := n1_; have GW101 := n2_; have GE101 := n3_; clear n0_ n1_ n2_ n3_; clear hb hbox hg; have hcz20_0 : w19.cell? ⟨gb101, 0, none⟩ = some (.int .i64 a0_0) := (blk_cell BK101.out 0).trans rfl; have hcz20_1 : w19.cell? ⟨gb101, 1, none⟩ = some (.int .i64 a0_1) := (blk_cell BK101.out 1).trans rfl; have hfz20_0 := blk_frozen BK101.out 0; have hfz20_1 := blk_frozen BK101.out 1)))
        go_ret
        exact ⟨by first | rfl | (simp [errW_none, errW_some] <;> rfl) | (simp [*, errW_none, errW_some] <;> rfl), by repeat (first | (with_reducible first | exact HB.out | apply below_alloc | apply pw_below_drewN | apply below_drew1 | refine below_set ?_ GE101.out) | exact HB.out)⟩

/-! ### format_part_mask: function 43 -/
def format_part_mask.f (a0_0 : Int) (a0_1 : Int) : Option (Int) := if 0 ≤ a0_1 then (some (shl .i64 a0_0 a0_1)) else (none)
set_option maxHeartbeats 8000000 in
set_option maxRecDepth 100000 in
theorem format_part_mask.calls (a0_0 : Int) (a0_1 : Int) (r : Int) (w : World) (h : format_part_mask.f a0_0 a0_1 = some r) :
    Calls Try.prog 43 #[.agg #[.int .i64 a0_0, .int .i64 a0_1]] w fun e w' => e = .returned (.int .i64 r) ∧ Below w.heap.size w w' := by
  have hu66 := Try.underlying66
  have HB := Aside0.mk (Below.refl w.heap.size w)
  have H : (if 0 ≤ a0_1 then (some (shl .i64 a0_0 a0_1)) else (none)) = some r := h
  clear h
  by_cases c2 : 0 ≤ a0_1
  · rw [if_pos c2] at H
    have c2b0 := eq_true c2
    have c2b1 : decide (0 ≤ a0_1) = true := decide_eq_true c2
    clear c2
    obtain ⟨ji3, hji3⟩ : ∃ j_ : Int, (shl .i64 a0_0 a0_1) = j_ := ⟨_, rfl⟩
    replace H : (some ji3) = some r := by first | (rw [hji3] at H; exact H) | (simp only [hji3] at H ⊢; exact H)
    have hji3_ : (IntKind.i64.wrap (a0_0 * 2 ^ min a0_1.toNat 64)) = ji3 := hji3
    have hji3z : a0_1 ≤ 64 → (IntKind.i64.wrap (a0_0 * 2 ^ a0_1.toNat)) = ji3 := shl_small hji3
    have hji3y : (wrap64 (a0_0 * 2 ^ min a0_1.toNat 64)) = ji3 := (i64_w _).symm.trans hji3_
    have hji3x : a0_1 ≤ 64 → (wrap64 (a0_0 * 2 ^ a0_1.toNat)) = ji3 := fun h_ => (i64_w _).symm.trans (hji3z h_)
    obtain rfl := Option.some.inj H
    go_enter Try.func43, Try.ntmps43
    go_wp2_with (first | ((with_reducible refine gate_dst (N := 1) rfl ?_); refine box_event ?hg (N := 1) ?hd (cs := #[.int .i64 a0_0, .int .i64 a0_1]) (t := 66) ?hr ?_; (case hd => rfl); (case hg => rfl); (case hr => first | (go_simp; done) | (go_simp; rfl)); intro gb103 hg w4 hbox hb; have n0_ := Aside0.mk (below_step (by repeat (first | (with_reducible first | exact HB.out | apply below_alloc | apply pw_below_drewN | apply below_drew1) | exact HB.out)) hb); have n1_ := Aside0.mk (hbox); have n2_ := Aside0.mk ((by rw [hg]; exact (below_size (by repeat (first | (with_reducible first | exact HB.out | apply below_alloc | apply pw_below_drewN | apply below_drew1) | exact HB.out))) : w.heap.size ≤ gb103)); have n3_ := Aside0.mk ((by rw [hg]; exact (below_size (by repeat (first | (with_reducible first | exact HB.out | apply below_alloc | apply pw_below_drewN | apply below_drew1) | exact HB.out))) : w.heap.size ≤ gb103)); clear HB; have HB := n0_; have BK103 := n1_; have GW103 := n2_; have GE103 := n3_; clear n0_ n1_ n2_ n3_; clear hb hbox hg; have hcz5_0 : w4.cell? ⟨gb103, 0, none⟩ = some (.int .i64 a0_0) := (blk_cell BK103.out 0).trans rfl; have hcz5_1 : w4.cell? ⟨gb103, 1, none⟩ = some (.int .i64 a0_1) := (blk_cell BK103.out 1).trans rfl; have hfz5_0 := blk_frozen BK103.out 0; have hfz5_1 := blk_frozen BK103.out 1))
    go_ret
    exact ⟨by first | rfl | (simp [errW_none, errW_some] <;> rfl) | (simp only [← hji3]; first | rfl | (simp [errW_none, errW_some] <;> rfl)) | (simp [*, errW_none, errW_some] <;> rfl), by repeat (first | (with_reducible first | exact HB.out | apply below_alloc | apply pw_below_drewN | apply below_drew1 | refine below_set ?_ GE103.out) | exact HB.out)⟩
  · rw [if_neg c2] at H
    exact absurd H (by simp)

/-! ### format_Valid: function 16 -/
/-- The three parts. -/
def format_pm (a4 a5 a6 a7 a8 a9 : Int) : Nat → Int × Int
  | 0 => (a4, a7)
  | 1 => (a5, a8)
  | _ => (a6, a9)
theorem format_box_new (w : World) (o : Obj) : (w.alloc o).heap[w.heap.size]? = some o := heap_alloc_new w o
set_option maxHeartbeats 1000000 in
set_option maxRecDepth 100000 in
theorem format_parts_c (a0_0 : Int) (a0_1 : Int) (a0_2 : Bool) (a0_3 : Bool) (a0_4 : Int) (a0_5 : Int) (a0_6 : Int) (a0_7 : Int) (a0_8 : Int) (a0_9 : Int) (w : World) :
    Calls Try.prog 41 #[.agg #[.int .i64 a0_0, .int .i64 a0_1, .bool a0_2, .bool a0_3, .int .i64 a0_4, .int .i64 a0_5, .int .i64 a0_6, .int .i64 a0_7, .int .i64 a0_8, .int .i64 a0_9]] w fun e w' => e = .returned (.agg #[.int .i64 a0_4, .int .i64 a0_7, .int .i64 a0_5, .int .i64 a0_8, .int .i64 a0_6, .int .i64 a0_9]) ∧ Below w.heap.size w w' := by
  go_enter Try.func41, Try.ntmps41
  go_wp2
  have hb : ((w.alloc (.cells #[.int .i64 a0_0, .int .i64 a0_1, .bool a0_2, .bool a0_3, .int .i64 a0_4, .int .i64 a0_5, .int .i64 a0_6, .int .i64 a0_7, .int .i64 a0_8, .int .i64 a0_9] 23)).alloc (.cells #[.int .i64 a0_4, .int .i64 a0_7, .int .i64 a0_5, .int .i64 a0_8, .int .i64 a0_6, .int .i64 a0_9] 67)).heap[w.heap.size + 1]? = some (.cells #[.int .i64 a0_4, .int .i64 a0_7, .int .i64 a0_5, .int .i64 a0_8, .int .i64 a0_6, .int .i64 a0_9] 67 (0, 0)) := by
    have := heap_alloc_new (w.alloc (.cells #[.int .i64 a0_0, .int .i64 a0_1, .bool a0_2, .bool a0_3, .int .i64 a0_4, .int .i64 a0_5, .int .i64 a0_6, .int .i64 a0_7, .int .i64 a0_8, .int .i64 a0_9] 23)) (.cells #[.int .i64 a0_4, .int .i64 a0_7, .int .i64 a0_5, .int .i64 a0_8, .int .i64 a0_6, .int .i64 a0_9] 67)
    rwa [World.size_alloc] at this
  refine bodyPost_ret (results_cell_row rfl _ _ (w.heap.size + 1) 67 #[.int .i64 a0_4, .int .i64 a0_7, .int .i64 a0_5, .int .i64 a0_8, .int .i64 a0_6, .int .i64 a0_9] (0, 0) _ rfl hb Try.underlying67 rfl (by kernel_rfl)) rfl ?_
  exact ⟨rfl, below_alloc (below_alloc (Below.refl _ _) _) _⟩
/-- May the parts be, of a value of n bits? -/
def format_okF (n : Int) : List (Int × Int) → Int → Option Bool
  | [], _ => some true
  | (m, s) :: l, met => (format_part_right.f m s n).bind fun r => if r = true then ((format_part_mask.f m s).bind fun q => if Go.bits .and .i64 met q = 0 then format_okF n l (Go.bits .or .i64 met q) else some false) else some false
def format_Valid.f (a0_0 : Int) (a0_1 : Int) (a0_2 : Bool) (a0_3 : Bool) (a0_4 : Int) (a0_5 : Int) (a0_6 : Int) (a0_7 : Int) (a0_8 : Int) (a0_9 : Int) : Option Bool :=
  if a0_0 = 8 ∨ a0_0 = 16 ∨ a0_0 = 32 then (if a0_1 < 1 then some false else if a0_1 > a0_0 then some false else if a0_3 = true then format_okF a0_0 [(a0_4, a0_7), (a0_5, a0_8), (a0_6, a0_9)] 0 else some false) else some false
theorem format_okF_cons {n m s met : Int} {l : List (Int × Int)} {r : Bool} (h : format_okF n ((m, s) :: l) met = some r) :
    (format_part_right.f m s n = some false ∧ r = false) ∨ (format_part_right.f m s n = some true ∧ ∃ q, format_part_mask.f m s = some q ∧ ((Go.bits .and .i64 met q ≠ 0 ∧ r = false) ∨ (Go.bits .and .i64 met q = 0 ∧ format_okF n l (Go.bits .or .i64 met q) = some r))) := by
  unfold format_okF at h
  cases hr : format_part_right.f m s n with
  | none => rw [hr] at h; cases h
  | some b =>
    rw [hr] at h
    simp only [Option.bind_some] at h
    cases b with
    | false => rw [if_neg (by decide)] at h; exact .inl ⟨rfl, (Option.some.inj h).symm⟩
    | true =>
      rw [if_pos rfl] at h
      refine .inr ⟨rfl, ?_⟩
      cases hq : format_part_mask.f m s with
      | none => rw [hq] at h; cases h
      | some q =>
        rw [hq] at h
        simp only [Option.bind_some] at h
        refine ⟨q, rfl, ?_⟩
        by_cases h0 : Go.bits .and .i64 met q = 0
        · rw [if_pos h0] at h; exact .inr ⟨h0, h⟩
        · rw [if_neg h0] at h; exact .inl ⟨h0, (Option.some.inj h).symm⟩
def format_rest (a4 a5 a6 a7 a8 a9 : Int) (k : Nat) : List (Int × Int) := [(a4, a7), (a5, a8), (a6, a9)].drop k
theorem format_rest_at (a4 a5 a6 a7 a8 a9 : Int) (k : Nat) (hk : k < 3) : format_rest a4 a5 a6 a7 a8 a9 k = ((format_pm a4 a5 a6 a7 a8 a9 k).1, (format_pm a4 a5 a6 a7 a8 a9 k).2) :: format_rest a4 a5 a6 a7 a8 a9 (k + 1) := by
  rcases (show k = 0 ∨ k = 1 ∨ k = 2 by omega) with rfl | rfl | rfl <;> rfl
theorem format_index (a4 a5 a6 a7 a8 a9 : Int) (k : Nat) (hk : k < 3) (w : World) : (Instr.index 67 (.agg #[.int .i64 a4, .int .i64 a7, .int .i64 a5, .int .i64 a8, .int .i64 a6, .int .i64 a9]) (.int .i64 (k : Int))).run Try.prog w = .ok (.agg #[.int .i64 (format_pm a4 a5 a6 a7 a8 a9 k).1, .int .i64 (format_pm a4 a5 a6 a7 a8 a9 k).2]) w := by
  rcases (show k = 0 ∨ k = 1 ∨ k = 2 by omega) with rfl | rfl | rfl <;> kernel_rfl
set_option maxHeartbeats 2000000 in
set_option maxRecDepth 100000 in
theorem format_Valid.calls (a0_0 : Int) (a0_1 : Int) (a0_2 : Bool) (a0_3 : Bool) (a0_4 : Int) (a0_5 : Int) (a0_6 : Int) (a0_7 : Int) (a0_8 : Int) (a0_9 : Int) (r : Bool) (w : World) (h : format_Valid.f a0_0 a0_1 a0_2 a0_3 a0_4 a0_5 a0_6 a0_7 a0_8 a0_9 = some r) :
    Calls Try.prog 16 #[.agg #[.int .i64 a0_0, .int .i64 a0_1, .bool a0_2, .bool a0_3, .int .i64 a0_4, .int .i64 a0_5, .int .i64 a0_6, .int .i64 a0_7, .int .i64 a0_8, .int .i64 a0_9]] w fun e w' => e = .returned (.bool r) ∧ Below w.heap.size w w' := by
  have HW := Lib.hid (below_alloc (Below.refl w.heap.size w) (.cells #[.int .i64 a0_0, .int .i64 a0_1, .bool a0_2, .bool a0_3, .int .i64 a0_4, .int .i64 a0_5, .int .i64 a0_6, .int .i64 a0_7, .int .i64 a0_8, .int .i64 a0_9] 23))
  unfold format_Valid.f at h
  by_cases hn : a0_0 = 8 ∨ a0_0 = 16 ∨ a0_0 = 32
  · rw [if_pos hn] at h
    by_cases h1 : a0_1 < 1
    · rw [if_pos h1] at h
      obtain rfl := Option.some.inj h
      clear h
      rcases hn with hn | hn | hn
      · have b1 : (a0_0 == 8) = true := by simp [hn]
        clear hn
        go_enter Try.func16, Try.ntmps16
        go_wp2
        go_ret
        exact ⟨rfl, HW.out⟩
      · have b1 : (a0_0 == 8) = false := by simp [hn]
        have b2 : (a0_0 == 16) = true := by simp [hn]
        clear hn
        go_enter Try.func16, Try.ntmps16
        go_wp2
        go_ret
        exact ⟨rfl, HW.out⟩
      · have b1 : (a0_0 == 8) = false := by simp [hn]
        have b2 : (a0_0 == 16) = false := by simp [hn]
        have b3 : (a0_0 == 32) = true := by simp [hn]
        clear hn
        go_enter Try.func16, Try.ntmps16
        go_wp2
        go_ret
        exact ⟨rfl, HW.out⟩
    · rw [if_neg h1] at h
      by_cases h2 : a0_1 > a0_0
      · rw [if_pos h2] at h
        obtain rfl := Option.some.inj h
        clear h
        rcases hn with hn | hn | hn
        · have b1 : (a0_0 == 8) = true := by simp [hn]
          clear hn
          go_enter Try.func16, Try.ntmps16
          go_wp2
          go_ret
          exact ⟨rfl, HW.out⟩
        · have b1 : (a0_0 == 8) = false := by simp [hn]
          have b2 : (a0_0 == 16) = true := by simp [hn]
          clear hn
          go_enter Try.func16, Try.ntmps16
          go_wp2
          go_ret
          exact ⟨rfl, HW.out⟩
        · have b1 : (a0_0 == 8) = false := by simp [hn]
          have b2 : (a0_0 == 16) = false := by simp [hn]
          have b3 : (a0_0 == 32) = true := by simp [hn]
          clear hn
          go_enter Try.func16, Try.ntmps16
          go_wp2
          go_ret
          exact ⟨rfl, HW.out⟩
      · rw [if_neg h2] at h
        cases a0_3 with
        | false =>
          rw [if_neg (by decide)] at h
          obtain rfl := Option.some.inj h
          clear h
          rcases hn with hn | hn | hn
          · have b1 : (a0_0 == 8) = true := by simp [hn]
            clear hn
            go_enter Try.func16, Try.ntmps16
            go_wp2
            go_ret
            exact ⟨rfl, HW.out⟩
          · have b1 : (a0_0 == 8) = false := by simp [hn]
            have b2 : (a0_0 == 16) = true := by simp [hn]
            clear hn
            go_enter Try.func16, Try.ntmps16
            go_wp2
            go_ret
            exact ⟨rfl, HW.out⟩
          · have b1 : (a0_0 == 8) = false := by simp [hn]
            have b2 : (a0_0 == 16) = false := by simp [hn]
            have b3 : (a0_0 == 32) = true := by simp [hn]
            clear hn
            go_enter Try.func16, Try.ntmps16
            go_wp2
            go_ret
            exact ⟨rfl, HW.out⟩
        | true =>
          rw [if_pos rfl] at h
          have H := Lib.hid (show format_okF a0_0 (format_rest a0_4 a0_5 a0_6 a0_7 a0_8 a0_9 0) 0 = some r from h)
          have HG := Lib.hid (heap_alloc_new w (.cells #[.int .i64 a0_0, .int .i64 a0_1, .bool a0_2, .bool true, .int .i64 a0_4, .int .i64 a0_5, .int .i64 a0_6, .int .i64 a0_7, .int .i64 a0_8, .int .i64 a0_9] 23))
          clear h
          rcases hn with hn | hn | hn
          · have b1 : (a0_0 == 8) = true := by simp [hn]
            clear hn
            go_enter Try.func16, Try.ntmps16
            go_wp2_with fail
            refine (format_parts_c _ _ _ _ _ _ _ _ _ _ _).mono ?_
            rintro e w1 ⟨rfl, hb⟩
            have HB := Lib.hid (HW.out.trans (Below.mono hb (by simp)))
            have HG1 := Lib.hid ((hb.block w.heap.size (by simp)).trans HG.out)
            clear hb
            go_wp2_with fail
            go_loopw [3, 29] (fun m i wr => ∃ (k : Nat) (met : Int), k ≤ 3 ∧ i = .int .i64 k ∧ m = .int .i64 met ∧ Hid (format_okF a0_0 (format_rest a0_4 a0_5 a0_6 a0_7 a0_8 a0_9 k) met = some r) ∧ Hid (wr.heap[w.heap.size]? = some (.cells #[.int .i64 a0_0, .int .i64 a0_1, .bool a0_2, .bool true, .int .i64 a0_4, .int .i64 a0_5, .int .i64 a0_6, .int .i64 a0_7, .int .i64 a0_8, .int .i64 a0_9] 23 (0, 0))) ∧ Hid (Below w.heap.size w wr)) (fun _ i _ => 3 - (intOf i).toNat)
            case atStart => exact ⟨0, 0, by omega, rfl, rfl, H, HG1, HB⟩
            case round =>
              obtain ⟨k, met, hk, rfl, rfl, HO, HX, HY⟩ := hrel
              by_cases hk3 : k < 3
              · have q0 : wr.cell? ⟨w.heap.size, 0, none⟩ = some (.int .i64 a0_0) := by rw [World.cell?, HX.out]; rfl
                have hlt : w.heap.size < wr.heap.size := blk_lt HX.out
                have hix := fun wx => format_index a0_4 a0_5 a0_6 a0_7 a0_8 a0_9 k hk3 wx
                have ho := HO.out
                rw [format_rest_at _ _ _ _ _ _ k hk3] at ho
                obtain ⟨m, hm⟩ : ∃ m, (format_pm a0_4 a0_5 a0_6 a0_7 a0_8 a0_9 k).1 = m := ⟨_, rfl⟩
                obtain ⟨s, hs⟩ : ∃ s, (format_pm a0_4 a0_5 a0_6 a0_7 a0_8 a0_9 k).2 = s := ⟨_, rfl⟩
                simp only [hm, hs] at hix
                rw [hm, hs] at ho
                clear hm hs HO
                rcases format_okF_cons ho with ⟨hr, rfl⟩ | ⟨hr, q, hq, hcase⟩
                · have HR := Lib.hid hr
                  clear ho hr
                  go_wp2_with fail
                  refine (format_part_right.calls m s a0_0 false _ HR.out).mono ?_
                  rintro e w3 ⟨rfl, hb⟩
                  have HB3 := Lib.hid (HY.out.trans (Below.mono ((below_alloc (Below.refl wr.heap.size wr) (.cells #[.int .i64 m, .int .i64 s] 66)).trans (Below.mono hb (by simp))) HY.out.size))
                  clear hb hix
                  go_wp2_with fail
                  go_ret
                  exact ⟨rfl, HB3.out⟩
                · have HR := Lib.hid hr
                  have HQ := Lib.hid hq
                  clear ho hr hq
                  go_wp2_with fail
                  refine (format_part_right.calls m s a0_0 true _ HR.out).mono ?_
                  rintro e w3 ⟨rfl, hb⟩
                  have hB3 := (below_alloc (Below.refl wr.heap.size wr) (.cells #[.int .i64 m, .int .i64 s] 66)).trans (Below.mono hb (by simp))
                  have hP3 := (hb.block wr.heap.size (by simp)).trans (heap_alloc_new wr (.cells #[.int .i64 m, .int .i64 s] 66))
                  have p0 : w3.cell? ⟨wr.heap.size, 0, none⟩ = some (.int .i64 m) := by rw [World.cell?, hP3]; rfl
                  have p1 : w3.cell? ⟨wr.heap.size, 1, none⟩ = some (.int .i64 s) := by rw [World.cell?, hP3]; rfl
                  have HB3 := Lib.hid hB3
                  have HP3 := Lib.hid hP3
                  clear hb hB3 hP3 q0 hix
                  go_wp2_with fail
                  refine (format_part_mask.calls m s q _ HQ.out).mono ?_
                  rintro e w4 ⟨rfl, hb⟩
                  have hP4 := (hb.block wr.heap.size (blk_lt HP3.out)).trans HP3.out
                  have p0 : w4.cell? ⟨wr.heap.size, 0, none⟩ = some (.int .i64 m) := by rw [World.cell?, hP4]; rfl
                  have p1 : w4.cell? ⟨wr.heap.size, 1, none⟩ = some (.int .i64 s) := by rw [World.cell?, hP4]; rfl
                  have HB4 := Lib.hid (HB3.out.trans (Below.mono hb HB3.out.size))
                  clear hb hP4
                  rcases hcase with ⟨hne, rfl⟩ | ⟨he, hn⟩
                  · have n1 : (Go.bits .and .i64 met q == 0) = false := by simpa using hne
                    have n2 : (Go.bits .and .i64 met q != 0) = true := by simpa using hne
                    clear hne
                    go_wp2_with fail
                    go_ret
                    exact ⟨rfl, HY.out.trans (Below.mono HB4.out HY.out.size)⟩
                  · have HN := Lib.hid hn
                    have n1 : (Go.bits .and .i64 met q == 0) = true := by simpa using he
                    have n2 : (Go.bits .and .i64 met q != 0) = false := by simpa using he
                    clear he hn
                    go_wp2_with fail
                    refine (format_part_mask.calls m s q _ HQ.out).mono ?_
                    rintro e w5 ⟨rfl, hb⟩
                    have HB5 := Lib.hid (HB4.out.trans (Below.mono hb HB4.out.size))
                    clear hb n1 n2
                    go_wp2_with fail
                    go_roundw
                    case rel => exact ⟨k + 1, _, by omega, by go_num, rfl, HN, Lib.hid ((HB5.out.block _ hlt).trans HX.out), Lib.hid (HY.out.trans (Below.mono HB5.out HY.out.size))⟩
                    case measure => simp [intOf]; omega
              · obtain rfl : k = 3 := by omega
                have ho := HO.out
                obtain rfl : true = r := Option.some.inj ho
                clear ho HO
                go_wp2_with fail
                go_ret
                exact ⟨rfl, HY.out⟩
          · have b1 : (a0_0 == 8) = false := by simp [hn]
            have b2 : (a0_0 == 16) = true := by simp [hn]
            clear hn
            go_enter Try.func16, Try.ntmps16
            go_wp2_with fail
            refine (format_parts_c _ _ _ _ _ _ _ _ _ _ _).mono ?_
            rintro e w1 ⟨rfl, hb⟩
            have HB := Lib.hid (HW.out.trans (Below.mono hb (by simp)))
            have HG1 := Lib.hid ((hb.block w.heap.size (by simp)).trans HG.out)
            clear hb
            go_wp2_with fail
            go_loopw [3, 29] (fun m i wr => ∃ (k : Nat) (met : Int), k ≤ 3 ∧ i = .int .i64 k ∧ m = .int .i64 met ∧ Hid (format_okF a0_0 (format_rest a0_4 a0_5 a0_6 a0_7 a0_8 a0_9 k) met = some r) ∧ Hid (wr.heap[w.heap.size]? = some (.cells #[.int .i64 a0_0, .int .i64 a0_1, .bool a0_2, .bool true, .int .i64 a0_4, .int .i64 a0_5, .int .i64 a0_6, .int .i64 a0_7, .int .i64 a0_8, .int .i64 a0_9] 23 (0, 0))) ∧ Hid (Below w.heap.size w wr)) (fun _ i _ => 3 - (intOf i).toNat)
            case atStart => exact ⟨0, 0, by omega, rfl, rfl, H, HG1, HB⟩
            case round =>
              obtain ⟨k, met, hk, rfl, rfl, HO, HX, HY⟩ := hrel
              by_cases hk3 : k < 3
              · have q0 : wr.cell? ⟨w.heap.size, 0, none⟩ = some (.int .i64 a0_0) := by rw [World.cell?, HX.out]; rfl
                have hlt : w.heap.size < wr.heap.size := blk_lt HX.out
                have hix := fun wx => format_index a0_4 a0_5 a0_6 a0_7 a0_8 a0_9 k hk3 wx
                have ho := HO.out
                rw [format_rest_at _ _ _ _ _ _ k hk3] at ho
                obtain ⟨m, hm⟩ : ∃ m, (format_pm a0_4 a0_5 a0_6 a0_7 a0_8 a0_9 k).1 = m := ⟨_, rfl⟩
                obtain ⟨s, hs⟩ : ∃ s, (format_pm a0_4 a0_5 a0_6 a0_7 a0_8 a0_9 k).2 = s := ⟨_, rfl⟩
                simp only [hm, hs] at hix
                rw [hm, hs] at ho
                clear hm hs HO
                rcases format_okF_cons ho with ⟨hr, rfl⟩ | ⟨hr, q, hq, hcase⟩
                · have HR := Lib.hid hr
                  clear ho hr
                  go_wp2_with fail
                  refine (format_part_right.calls m s a0_0 false _ HR.out).mono ?_
                  rintro e w3 ⟨rfl, hb⟩
                  have HB3 := Lib.hid (HY.out.trans (Below.mono ((below_alloc (Below.refl wr.heap.size wr) (.cells #[.int .i64 m, .int .i64 s] 66)).trans (Below.mono hb (by simp))) HY.out.size))
                  clear hb hix
                  go_wp2_with fail
                  go_ret
                  exact ⟨rfl, HB3.out⟩
                · have HR := Lib.hid hr
                  have HQ := Lib.hid hq
                  clear ho hr hq
                  go_wp2_with fail
                  refine (format_part_right.calls m s a0_0 true _ HR.out).mono ?_
                  rintro e w3 ⟨rfl, hb⟩
                  have hB3 := (below_alloc (Below.refl wr.heap.size wr) (.cells #[.int .i64 m, .int .i64 s] 66)).trans (Below.mono hb (by simp))
                  have hP3 := (hb.block wr.heap.size (by simp)).trans (heap_alloc_new wr (.cells #[.int .i64 m, .int .i64 s] 66))
                  have p0 : w3.cell? ⟨wr.heap.size, 0, none⟩ = some (.int .i64 m) := by rw [World.cell?, hP3]; rfl
                  have p1 : w3.cell? ⟨wr.heap.size, 1, none⟩ = some (.int .i64 s) := by rw [World.cell?, hP3]; rfl
                  have HB3 := Lib.hid hB3
                  have HP3 := Lib.hid hP3
                  clear hb hB3 hP3 q0 hix
                  go_wp2_with fail
                  refine (format_part_mask.calls m s q _ HQ.out).mono ?_
                  rintro e w4 ⟨rfl, hb⟩
                  have hP4 := (hb.block wr.heap.size (blk_lt HP3.out)).trans HP3.out
                  have p0 : w4.cell? ⟨wr.heap.size, 0, none⟩ = some (.int .i64 m) := by rw [World.cell?, hP4]; rfl
                  have p1 : w4.cell? ⟨wr.heap.size, 1, none⟩ = some (.int .i64 s) := by rw [World.cell?, hP4]; rfl
                  have HB4 := Lib.hid (HB3.out.trans (Below.mono hb HB3.out.size))
                  clear hb hP4
                  rcases hcase with ⟨hne, rfl⟩ | ⟨he, hn⟩
                  · have n1 : (Go.bits .and .i64 met q == 0) = false := by simpa using hne
                    have n2 : (Go.bits .and .i64 met q != 0) = true := by simpa using hne
                    clear hne
                    go_wp2_with fail
                    go_ret
                    exact ⟨rfl, HY.out.trans (Below.mono HB4.out HY.out.size)⟩
                  · have HN := Lib.hid hn
                    have n1 : (Go.bits .and .i64 met q == 0) = true := by simpa using he
                    have n2 : (Go.bits .and .i64 met q != 0) = false := by simpa using he
                    clear he hn
                    go_wp2_with fail
                    refine (format_part_mask.calls m s q _ HQ.out).mono ?_
                    rintro e w5 ⟨rfl, hb⟩
                    have HB5 := Lib.hid (HB4.out.trans (Below.mono hb HB4.out.size))
                    clear hb n1 n2
                    go_wp2_with fail
                    go_roundw
                    case rel => exact ⟨k + 1, _, by omega, by go_num, rfl, HN, Lib.hid ((HB5.out.block _ hlt).trans HX.out), Lib.hid (HY.out.trans (Below.mono HB5.out HY.out.size))⟩
                    case measure => simp [intOf]; omega
              · obtain rfl : k = 3 := by omega
                have ho := HO.out
                obtain rfl : true = r := Option.some.inj ho
                clear ho HO
                go_wp2_with fail
                go_ret
                exact ⟨rfl, HY.out⟩
          · have b1 : (a0_0 == 8) = false := by simp [hn]
            have b2 : (a0_0 == 16) = false := by simp [hn]
            have b3 : (a0_0 == 32) = true := by simp [hn]
            clear hn
            go_enter Try.func16, Try.ntmps16
            go_wp2_with fail
            refine (format_parts_c _ _ _ _ _ _ _ _ _ _ _).mono ?_
            rintro e w1 ⟨rfl, hb⟩
            have HB := Lib.hid (HW.out.trans (Below.mono hb (by simp)))
            have HG1 := Lib.hid ((hb.block w.heap.size (by simp)).trans HG.out)
            clear hb
            go_wp2_with fail
            go_loopw [3, 29] (fun m i wr => ∃ (k : Nat) (met : Int), k ≤ 3 ∧ i = .int .i64 k ∧ m = .int .i64 met ∧ Hid (format_okF a0_0 (format_rest a0_4 a0_5 a0_6 a0_7 a0_8 a0_9 k) met = some r) ∧ Hid (wr.heap[w.heap.size]? = some (.cells #[.int .i64 a0_0, .int .i64 a0_1, .bool a0_2, .bool true, .int .i64 a0_4, .int .i64 a0_5, .int .i64 a0_6, .int .i64 a0_7, .int .i64 a0_8, .int .i64 a0_9] 23 (0, 0))) ∧ Hid (Below w.heap.size w wr)) (fun _ i _ => 3 - (intOf i).toNat)
            case atStart => exact ⟨0, 0, by omega, rfl, rfl, H, HG1, HB⟩
            case round =>
              obtain ⟨k, met, hk, rfl, rfl, HO, HX, HY⟩ := hrel
              by_cases hk3 : k < 3
              · have q0 : wr.cell? ⟨w.heap.size, 0, none⟩ = some (.int .i64 a0_0) := by rw [World.cell?, HX.out]; rfl
                have hlt : w.heap.size < wr.heap.size := blk_lt HX.out
                have hix := fun wx => format_index a0_4 a0_5 a0_6 a0_7 a0_8 a0_9 k hk3 wx
                have ho := HO.out
                rw [format_rest_at _ _ _ _ _ _ k hk3] at ho
                obtain ⟨m, hm⟩ : ∃ m, (format_pm a0_4 a0_5 a0_6 a0_7 a0_8 a0_9 k).1 = m := ⟨_, rfl⟩
                obtain ⟨s, hs⟩ : ∃ s, (format_pm a0_4 a0_5 a0_6 a0_7 a0_8 a0_9 k).2 = s := ⟨_, rfl⟩
                simp only [hm, hs] at hix
                rw [hm, hs] at ho
                clear hm hs HO
                rcases format_okF_cons ho with ⟨hr, rfl⟩ | ⟨hr, q, hq, hcase⟩
                · have HR := Lib.hid hr
                  clear ho hr
                  go_wp2_with fail
                  refine (format_part_right.calls m s a0_0 false _ HR.out).mono ?_
                  rintro e w3 ⟨rfl, hb⟩
                  have HB3 := Lib.hid (HY.out.trans (Below.mono ((below_alloc (Below.refl wr.heap.size wr) (.cells #[.int .i64 m, .int .i64 s] 66)).trans (Below.mono hb (by simp))) HY.out.size))
                  clear hb hix
                  go_wp2_with fail
                  go_ret
                  exact ⟨rfl, HB3.out⟩
                · have HR := Lib.hid hr
                  have HQ := Lib.hid hq
                  clear ho hr hq
                  go_wp2_with fail
                  refine (format_part_right.calls m s a0_0 true _ HR.out).mono ?_
                  rintro e w3 ⟨rfl, hb⟩
                  have hB3 := (below_alloc (Below.refl wr.heap.size wr) (.cells #[.int .i64 m, .int .i64 s] 66)).trans (Below.mono hb (by simp))
                  have hP3 := (hb.block wr.heap.size (by simp)).trans (heap_alloc_new wr (.cells #[.int .i64 m, .int .i64 s] 66))
                  have p0 : w3.cell? ⟨wr.heap.size, 0, none⟩ = some (.int .i64 m) := by rw [World.cell?, hP3]; rfl
                  have p1 : w3.cell? ⟨wr.heap.size, 1, none⟩ = some (.int .i64 s) := by rw [World.cell?, hP3]; rfl
                  have HB3 := Lib.hid hB3
                  have HP3 := Lib.hid hP3
                  clear hb hB3 hP3 q0 hix
                  go_wp2_with fail
                  refine (format_part_mask.calls m s q _ HQ.out).mono ?_
                  rintro e w4 ⟨rfl, hb⟩
                  have hP4 := (hb.block wr.heap.size (blk_lt HP3.out)).trans HP3.out
                  have p0 : w4.cell? ⟨wr.heap.size, 0, none⟩ = some (.int .i64 m) := by rw [World.cell?, hP4]; rfl
                  have p1 : w4.cell? ⟨wr.heap.size, 1, none⟩ = some (.int .i64 s) := by rw [World.cell?, hP4]; rfl
                  have HB4 := Lib.hid (HB3.out.trans (Below.mono hb HB3.out.size))
                  clear hb hP4
                  rcases hcase with ⟨hne, rfl⟩ | ⟨he, hn⟩
                  · have n1 : (Go.bits .and .i64 met q == 0) = false := by simpa using hne
                    have n2 : (Go.bits .and .i64 met q != 0) = true := by simpa using hne
                    clear hne
                    go_wp2_with fail
                    go_ret
                    exact ⟨rfl, HY.out.trans (Below.mono HB4.out HY.out.size)⟩
                  · have HN := Lib.hid hn
                    have n1 : (Go.bits .and .i64 met q == 0) = true := by simpa using he
                    have n2 : (Go.bits .and .i64 met q != 0) = false := by simpa using he
                    clear he hn
                    go_wp2_with fail
                    refine (format_part_mask.calls m s q _ HQ.out).mono ?_
                    rintro e w5 ⟨rfl, hb⟩
                    have HB5 := Lib.hid (HB4.out.trans (Below.mono hb HB4.out.size))
                    clear hb n1 n2
                    go_wp2_with fail
                    go_roundw
                    case rel => exact ⟨k + 1, _, by omega, by go_num, rfl, HN, Lib.hid ((HB5.out.block _ hlt).trans HX.out), Lib.hid (HY.out.trans (Below.mono HB5.out HY.out.size))⟩
                    case measure => simp [intOf]; omega
              · obtain rfl : k = 3 := by omega
                have ho := HO.out
                obtain rfl : true = r := Option.some.inj ho
                clear ho HO
                go_wp2_with fail
                go_ret
                exact ⟨rfl, HY.out⟩
  · rw [if_neg hn] at h
    obtain rfl := Option.some.inj h
    have b1 : (a0_0 == 8) = false := by simp; omega
    have b2 : (a0_0 == 16) = false := by simp; omega
    have b3 : (a0_0 == 32) = false := by simp; omega
    clear h hn
    go_enter Try.func16, Try.ntmps16
    go_wp2
    go_ret
    exact ⟨rfl, HW.out⟩

/-! ### format_Size: function 11 -/
def format_Size.f (a0_0 : Int) (a0_1 : Int) (a0_2 : Bool) (a0_3 : Bool) (a0_4 : Int) (a0_5 : Int) (a0_6 : Int) (a0_7 : Int) (a0_8 : Int) (a0_9 : Int) : Option (Int) := (format_Valid.f a0_0 a0_1 a0_2 a0_3 a0_4 a0_5 a0_6 a0_7 a0_8 a0_9).bind fun t105 => (if t105 = true then (some (wrap64 (Int.tdiv a0_0 8))) else (some 0))
set_option maxHeartbeats 8000000 in
set_option maxRecDepth 100000 in
theorem format_Size.calls (a0_0 : Int) (a0_1 : Int) (a0_2 : Bool) (a0_3 : Bool) (a0_4 : Int) (a0_5 : Int) (a0_6 : Int) (a0_7 : Int) (a0_8 : Int) (a0_9 : Int) (r : Int) (w : World) (h : format_Size.f a0_0 a0_1 a0_2 a0_3 a0_4 a0_5 a0_6 a0_7 a0_8 a0_9 = some r) :
    Calls Try.prog 11 #[.agg #[.int .i64 a0_0, .int .i64 a0_1, .bool a0_2, .bool a0_3, .int .i64 a0_4, .int .i64 a0_5, .int .i64 a0_6, .int .i64 a0_7, .int .i64 a0_8, .int .i64 a0_9]] w fun e w' => e = .returned (.int .i64 r) ∧ Below w.heap.size w w' := by
  have hu23 := Try.underlying23
  have HB := Aside0.mk (Below.refl w.heap.size w)
  have H : ((format_Valid.f a0_0 a0_1 a0_2 a0_3 a0_4 a0_5 a0_6 a0_7 a0_8 a0_9).bind fun t105 => (if t105 = true then (some (wrap64 (Int.tdiv a0_0 8))) else (some 0))) = some r := h
  clear h
  replace H := Option.bind_eq_some_iff.mp H
  obtain ⟨t105, A20, H⟩ := H
  replace H : (if t105 = true then (some (wrap64 (Int.tdiv a0_0 8))) else (some 0)) = some r := H
  have A2 := Aside0.mk A20
  clear A20
  by_cases c3 : t105 = true
  · subst c3
    have H1 : (some (wrap64 (Int.tdiv a0_0 8))) = some r := by rw [if_pos rfl] at H; exact H
    clear H
    have H := H1
    clear H1
    obtain rfl := Option.some.inj H
    go_enter Try.func11, Try.ntmps11
    go_wp2_with (first | ((with_reducible refine gate_dst (N := 1) rfl ?_); refine box_event ?hg (N := 1) ?hd (cs := #[.int .i64 a0_0, .int .i64 a0_1, .bool a0_2, .bool a0_3, .int .i64 a0_4, .int .i64 a0_5, .int .i64 a0_6, .int .i64 a0_7, .int .i64 a0_8, .int .i64 a0_9]) (t := 23) ?hr ?_; (case hd => rfl); (case hg => rfl); (case hr => first | (go_simp; done) | (go_simp; rfl)); intro gb104 hg w4 hbox hb; have n0_ := Aside0.mk (below_step (by repeat (first | (with_reducible first | exact HB.out | apply below_alloc | apply pw_below_drewN | apply below_drew1) | exact HB.out)) hb); have n1_ := Aside0.mk (hbox); have n2_ := Aside0.mk ((by rw [hg]; exact (below_size (by repeat (first | (with_reducible first | exact HB.out | apply below_alloc | apply pw_below_drewN | apply below_drew1) | exact HB.out))) : w.heap.size ≤ gb104)); have n3_ := Aside0.mk ((by rw [hg]; exact (below_size (by repeat (first | (with_reducible first | exact HB.out | apply below_alloc | apply pw_below_drewN | apply below_drew1) | exact HB.out))) : w.heap.size ≤ gb104)); clear HB; have HB := n0_; have BK104 := n1_; have GW104 := n2_; have GE104 := n3_; clear n0_ n1_ n2_ n3_; clear hb hbox hg; have hcz5_0 : w4.cell? ⟨gb104, 0, none⟩ = some (.int .i64 a0_0) := (blk_cell BK104.out 0).trans rfl; have hcz5_1 : w4.cell? ⟨gb104, 1, none⟩ = some (.int .i64 a0_1) := (blk_cell BK104.out 1).trans rfl; have hcz5_2 : w4.cell? ⟨gb104, 2, none⟩ = some (.bool a0_2) := (blk_cell BK104.out 2).trans rfl; have hcz5_3 : w4.cell? ⟨gb104, 3, none⟩ = some (.bool a0_3) := (blk_cell BK104.out 3).trans rfl; have hcz5_4 : w4.cell? ⟨gb104, 4, none⟩ = some (.int .i64 a0_4) := (blk_cell BK104.out 4).trans rfl; have hcz5_5 : w4.cell? ⟨gb104, 5, none⟩ = some (.int .i64 a0_5) := (blk_cell BK104.out 5).trans rfl; have hcz5_6 : w4.cell? ⟨gb104, 6, none⟩ = some (.int .i64 a0_6) := (blk_cell BK104.out 6).trans rfl; have hcz5_7 : w4.cell? ⟨gb104, 7, none⟩ = some (.int .i64 a0_7) := (blk_cell BK104.out 7).trans rfl; have hcz5_8 : w4.cell? ⟨gb104, 8, none⟩ = some (.int .i64 a0_8) := (blk_cell BK104.out 8).trans rfl; have hcz5_9 : w4.cell? ⟨gb104, 9, none⟩ = some (.int .i64 a0_9) := (blk_cell BK104.out 9).trans rfl; have hfz5_0 := blk_frozen BK104.out 0; have hfz5_1 := blk_frozen BK104.out 1; have hfz5_2 := blk_frozen BK104.out 2; have hfz5_3 := blk_frozen BK104.out 3; have hfz5_4 := blk_frozen BK104.out 4; have hfz5_5 := blk_frozen BK104.out 5; have hfz5_6 := blk_frozen BK104.out 6; have hfz5_7 := blk_frozen BK104.out 7; have hfz5_8 := blk_frozen BK104.out 8; have hfz5_9 := blk_frozen BK104.out 9) | ((with_reducible refine gate_callee (f := 16) rfl ?_); refine goesL_ (some 4) rfl rfl Try.func16 (by kernel_rfl) rfl #[.agg #[.int .i64 a0_0, .int .i64 a0_1, .bool a0_2, .bool a0_3, .int .i64 a0_4, .int .i64 a0_5, .int .i64 a0_6, .int .i64 a0_7, .int .i64 a0_8, .int .i64 a0_9]] rfl (by (try simp only [List.map_toArray, List.map_cons, List.map_nil]); first | done | rfl | (simp only [List.length_drop, List.length_take]; rfl)) ?_; (with_reducible refine (format_Valid.calls a0_0 a0_1 a0_2 a0_3 a0_4 a0_5 a0_6 a0_7 a0_8 a0_9 true _ A2.out).mono ?_); rintro e w6 ⟨rfl, hb⟩; refine ⟨_, rfl, ?_⟩; have n0_ := Aside0.mk (blk_below (g := gb104) (o := .cells #[.int .i64 a0_0, .int .i64 a0_1, .bool a0_2, .bool a0_3, .int .i64 a0_4, .int .i64 a0_5, .int .i64 a0_6, .int .i64 a0_7, .int .i64 a0_8, .int .i64 a0_9] 23 (0, 0)) (by (with_reducible repeat (first | refine blk_drewN ?_ _ | refine blk_drew ?_ | refine blk_alloc ?_ _)); exact BK104.out) hb); have n1_ := Aside0.mk (below_step (by repeat (first | (with_reducible first | exact HB.out | apply below_alloc | apply pw_below_drewN | apply below_drew1 | refine below_set ?_ GE104.out) | exact HB.out)) hb); clear BK104; clear HB; have BK104 := n0_; have HB := n1_; clear n0_ n1_; (try clear hb); (try clear hb2); (try clear hk); (try clear hi); have hcz7_0 : w6.cell? ⟨gb104, 0, none⟩ = some (.int .i64 a0_0) := (blk_cell BK104.out 0).trans rfl; have hcz7_1 : w6.cell? ⟨gb104, 1, none⟩ = some (.int .i64 a0_1) := (blk_cell BK104.out 1).trans rfl; have hcz7_2 : w6.cell? ⟨gb104, 2, none⟩ = some (.bool a0_2) := (blk_cell BK104.out 2).trans rfl; have hcz7_3 : w6.cell? ⟨gb104, 3, none⟩ = some (.bool a0_3) := (blk_cell BK104.out 3).trans rfl; have hcz7_4 : w6.cell? ⟨gb104, 4, none⟩ = some (.int .i64 a0_4) := (blk_cell BK104.out 4).trans rfl; have hcz7_5 : w6.cell? ⟨gb104, 5, none⟩ = some (.int .i64 a0_5) := (blk_cell BK104.out 5).trans rfl; have hcz7_6 : w6.cell? ⟨gb104, 6, none⟩ = some (.int .i64 a0_6) := (blk_cell BK104.out 6).trans rfl; have hcz7_7 : w6.cell? ⟨gb104, 7, none⟩ = some (.int .i64 a0_7) := (blk_cell BK104.out 7).trans rfl; have hcz7_8 : w6.cell? ⟨gb104, 8, none⟩ = some (.int .i64 a0_8) := (blk_cell BK104.out 8).trans rfl; have hcz7_9 : w6.cell? ⟨gb104, 9, none⟩ = some (.int .i64 a0_9) := (blk_cell BK104.out 9).trans rfl; have hfz7_0 := blk_frozen BK104.out 0; have hfz7_1 := blk_frozen BK104.out 1; have hfz7_2 := blk_frozen BK104.out 2; have hfz7_3 := blk_frozen BK104.out 3; have hfz7_4 := blk_frozen BK104.out 4; have hfz7_5 := blk_frozen BK104.out 5; have hfz7_6 := blk_frozen BK104.out 6; have hfz7_7 := blk_frozen BK104.out 7; have hfz7_8 := blk_frozen BK104.out 8; have hfz7_9 := blk_frozen BK104.out 9))
    go_ret
    exact ⟨by first | rfl | (simp [errW_none, errW_some] <;> rfl) | (simp [*, errW_none, errW_some] <;> rfl), by repeat (first | (with_reducible first | exact HB.out | apply below_alloc | apply pw_below_drewN | apply below_drew1 | refine below_set ?_ GE104.out) | exact HB.out)⟩
  · replace c3 := Bool.eq_false_iff.mpr c3
    subst c3
    have H1 : (some 0) = some r := by rw [if_neg (show ¬ (false = true) by decide)] at H; exact H
    clear H
    have H := H1
    clear H1
    obtain rfl := Option.some.inj H
    go_enter Try.func11, Try.ntmps11
    go_wp2_with (first | ((with_reducible refine gate_dst (N := 1) rfl ?_); refine box_event ?hg (N := 1) ?hd (cs := #[.int .i64 a0_0, .int .i64 a0_1, .bool a0_2, .bool a0_3, .int .i64 a0_4, .int .i64 a0_5, .int .i64 a0_6, .int .i64 a0_7, .int .i64 a0_8, .int .i64 a0_9]) (t := 23) ?hr ?_; (case hd => rfl); (case hg => rfl); (case hr => first | (go_simp; done) | (go_simp; rfl)); intro gb104 hg w8 hbox hb; have n0_ := Aside0.mk (below_step (by repeat (first | (with_reducible first | exact HB.out | apply below_alloc | apply pw_below_drewN | apply below_drew1) | exact HB.out)) hb); have n1_ := Aside0.mk (hbox); have n2_ := Aside0.mk ((by rw [hg]; exact (below_size (by repeat (first | (with_reducible first | exact HB.out | apply below_alloc | apply pw_below_drewN | apply below_drew1) | exact HB.out))) : w.heap.size ≤ gb104)); have n3_ := Aside0.mk ((by rw [hg]; exact (below_size (by repeat (first | (with_reducible first | exact HB.out | apply below_alloc | apply pw_below_drewN | apply below_drew1) | exact HB.out))) : w.heap.size ≤ gb104)); clear HB; have HB := n0_; have BK104 := n1_; have GW104 := n2_; have GE104 := n3_; clear n0_ n1_ n2_ n3_; clear hb hbox hg; have hcz9_0 : w8.cell? ⟨gb104, 0, none⟩ = some (.int .i64 a0_0) := (blk_cell BK104.out 0).trans rfl; have hcz9_1 : w8.cell? ⟨gb104, 1, none⟩ = some (.int .i64 a0_1) := (blk_cell BK104.out 1).trans rfl; have hcz9_2 : w8.cell? ⟨gb104, 2, none⟩ = some (.bool a0_2) := (blk_cell BK104.out 2).trans rfl; have hcz9_3 : w8.cell? ⟨gb104, 3, none⟩ = some (.bool a0_3) := (blk_cell BK104.out 3).trans rfl; have hcz9_4 : w8.cell? ⟨gb104, 4, none⟩ = some (.int .i64 a0_4) := (blk_cell BK104.out 4).trans rfl; have hcz9_5 : w8.cell? ⟨gb104, 5, none⟩ = some (.int .i64 a0_5) := (blk_cell BK104.out 5).trans rfl; have hcz9_6 : w8.cell? ⟨gb104, 6, none⟩ = some (.int .i64 a0_6) := (blk_cell BK104.out 6).trans rfl; have hcz9_7 : w8.cell? ⟨gb104, 7, none⟩ = some (.int .i64 a0_7) := (blk_cell BK104.out 7).trans rfl; have hcz9_8 : w8.cell? ⟨gb104, 8, none⟩ = some (.int .i64 a0_8) := (blk_cell BK104.out 8).trans rfl; have hcz9_9 : w8.cell? ⟨gb104, 9, none⟩ = some (.int .i64 a0_9) := (blk_cell BK104.out 9).trans rfl; have hfz9_0 := blk_frozen BK104.out 0; have hfz9_1 := blk_frozen BK104.out 1; have hfz9_2 := blk_frozen BK104.out 2; have hfz9_3 := blk_frozen BK104.out 3; have hfz9_4 := blk_frozen BK104.out 4; have hfz9_5 := blk_frozen BK104.out 5; have hfz9_6 := blk_frozen BK104.out 6; have hfz9_7 := blk_frozen BK104.out 7; have hfz9_8 := blk_frozen BK104.out 8; have hfz9_9 := blk_frozen BK104.out 9) | ((with_reducible refine gate_callee (f := 16) rfl ?_); refine goesL_ (some 4) rfl rfl Try.func16 (by kernel_rfl) rfl #[.agg #[.int .i64 a0_0, .int .i64 a0_1, .bool a0_2, .bool a0_3, .int .i64 a0_4, .int .i64 a0_5, .int .i64 a0_6, .int .i64 a0_7, .int .i64 a0_8, .int .i64 a0_9]] rfl (by (try simp only [List.map_toArray, List.map_cons, List.map_nil]); first | done | rfl | (simp only [List.length_drop, List.length_take]; rfl)) ?_; (with_reducible refine (format_Valid.calls a0_0 a0_1 a0_2 a0_3 a0_4 a0_5 a0_6 a0_7 a0_8 a0_9 false _ A2.out).mono ?_); rintro e w10 ⟨rfl, hb⟩; refine ⟨_, rfl, ?_⟩; have n0_ := Aside0.mk (blk_below (g := gb104) (o := .cells #[.int .i64 a0_0, .int .i64 a0_1, .bool a0_2, .bool a0_3, .int .i64 a0_4, .int .i64 a0_5, .int .i64 a0_6, .int .i64 a0_7, .int .i64 a0_8, .int .i64 a0_9] 23 (0, 0)) (by (with_reducible repeat (first | refine blk_drewN ?_ _ | refine blk_drew ?_ | refine blk_alloc ?_ _)); exact BK104.out) hb); have n1_ := Aside0.mk (below_step (by repeat (first | (with_reducible first | exact HB.out | apply below_alloc | apply pw_below_drewN | apply below_drew1 | refine below_set ?_ GE104.out) | exact HB.out)) hb); clear BK104; clear HB; have BK104 := n0_; have HB := n1_; clear n0_ n1_; (try clear hb); (try clear hb2); (try clear hk); (try clear hi)))
    go_ret
    exact ⟨by first | rfl | (simp [errW_none, errW_some] <;> rfl) | (simp [*, errW_none, errW_some] <;> rfl), by repeat (first | (with_reducible first | exact HB.out | apply below_alloc | apply pw_below_drewN | apply below_drew1 | refine below_set ?_ GE104.out) | exact HB.out)⟩

end Go.Proofs.Ytloigmonfbfieaa.X
