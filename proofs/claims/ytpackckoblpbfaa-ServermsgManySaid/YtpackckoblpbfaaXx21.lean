/- What each Go function that these laws use answers: as a Lean function, with the proof that the machine's call comes to it. Written by a program of this session (xprint.py). -/
import Derived.Test.YtpackckoblpbfaaXx0
import Derived.Test.YtpackckoblpbfaaXx8
import Derived.Test.YtpackckoblpbfaaXx12
import Derived.Test.YtpackckoblpbfaaXx13
import Derived.Test.YtpackckoblpbfaaXx14
import Derived.Test.YtpackckoblpbfaaXx20
namespace Go.Proofs.Ytpackckoblpbfaa.X
open Go.RowKit Go.Proofs.YtpackckoblpbfaaW.PrintWords Go.Proofs.YtpackckoblpbfaaW.PrintLast Go.Proofs.YtpackckoblpbfaaW.PrintMore
attribute [local go_sem] max2_int min2_int max_two min_two max_three min_three max_four min_four   -- for this text's walks alone
set_option linter.unusedVariables false
set_option linter.unusedSimpArgs false

/-! ### format_Standard: function 32 -/
def format_Standard.f  : Option (Int × Int × Bool × Bool × Int × Int × Int × Int × Int × Int) := some (32, 24, false, true, 255, 255, 255, 16, 8, 0)
set_option maxHeartbeats 8000000 in
set_option maxRecDepth 100000 in
theorem format_Standard.calls  (r1 : Int) (r2 : Int) (r3 : Bool) (r4 : Bool) (r5 : Int) (r6 : Int) (r7 : Int) (r8 : Int) (r9 : Int) (r10 : Int) (w : World) (h : format_Standard.f  = some (r1, r2, r3, r4, r5, r6, r7, r8, r9, r10)) :
  Calls Try.prog 32 #[] w fun e w' => e = .returned (.agg #[.int .i64 r1, .int .i64 r2, .bool r3, .bool r4, .int .i64 r5, .int .i64 r6, .int .i64 r7, .int .i64 r8, .int .i64 r9, .int .i64 r10]) ∧ Below w.heap.size w w' := by
 have hu24 := Try.underlying24
 have HB := Aside0.mk (Below.refl w.heap.size w)
 have H : (some (32, 24, false, true, 255, 255, 255, 16, 8, 0)) = some (r1, r2, r3, r4, r5, r6, r7, r8, r9, r10) := h
 clear h
 simp only [Option.some.injEq, Prod.mk.injEq] at H
 obtain ⟨rfl, rfl, rfl, rfl, rfl, rfl, rfl, rfl, rfl, rfl⟩ := H
 go_enter Try.func32, Try.ntmps32
 go_wp2_with (first | ((with_reducible refine gate_dst (N := 0) rfl ?_); refine box_event ?hg (N := 0) ?hd (cs := #[.int .i64 0, .int .i64 0, .bool false, .bool false, .int .i64 0, .int .i64 0, .int .i64 0, .int .i64 0, .int .i64 0, .int .i64 0]) (t := 24) ?hr ?_; (case hd => rfl); (case hg => rfl); (case hr => first | (go_simp; done) | (go_simp; rfl)); intro gb190 hg w1 hbox hb; have n0_ := Aside0.mk (below_step (by repeat (first | (with_reducible first | exact HB.out | apply below_alloc | apply pw_below_drewN | apply below_drew1) | exact HB.out)) hb); have n1_ := Aside0.mk (hbox); have n2_ := Aside0.mk ((by rw [hg]; exact (below_size (by repeat (first | (with_reducible first | exact HB.out | apply below_alloc | apply pw_below_drewN | apply below_drew1) | exact HB.out))) : w.heap.size ≤ gb190)); have n3_ := Aside0.mk ((by rw [hg]; exact (below_size (by repeat (first | (with_reducible first | exact HB.out | apply below_alloc | apply pw_below_drewN | apply below_drew1) | exact HB.out))) : w.heap.size ≤ gb190)); clear HB; have HB := n0_; have BK190 := n1_; have GW190 := n2_; have GE190 := n3_; clear n0_ n1_ n2_ n3_; clear hb hbox hg; have hcz2_0 : w1.cell? ⟨gb190, 0, none⟩ = some (.int .i64 0) := (blk_cell BK190.out 0).trans rfl; have hcz2_1 : w1.cell? ⟨gb190, 1, none⟩ = some (.int .i64 0) := (blk_cell BK190.out 1).trans rfl; have hcz2_2 : w1.cell? ⟨gb190, 2, none⟩ = some (.bool false) := (blk_cell BK190.out 2).trans rfl; have hcz2_3 : w1.cell? ⟨gb190, 3, none⟩ = some (.bool false) := (blk_cell BK190.out 3).trans rfl; have hcz2_4 : w1.cell? ⟨gb190, 4, none⟩ = some (.int .i64 0) := (blk_cell BK190.out 4).trans rfl; have hcz2_5 : w1.cell? ⟨gb190, 5, none⟩ = some (.int .i64 0) := (blk_cell BK190.out 5).trans rfl; have hcz2_6 : w1.cell? ⟨gb190, 6, none⟩ = some (.int .i64 0) := (blk_cell BK190.out 6).trans rfl; have hcz2_7 : w1.cell? ⟨gb190, 7, none⟩ = some (.int .i64 0) := (blk_cell BK190.out 7).trans rfl; have hcz2_8 : w1.cell? ⟨gb190, 8, none⟩ = some (.int .i64 0) := (blk_cell BK190.out 8).trans rfl; have hcz2_9 : w1.cell? ⟨gb190, 9, none⟩ = some (.int .i64 0) := (blk_cell BK190.out 9).trans rfl; have hfz2_0 := blk_frozen BK190.out 0; have hfz2_1 := blk_frozen BK190.out 1; have hfz2_2 := blk_frozen BK190.out 2; have hfz2_3 := blk_frozen BK190.out 3; have hfz2_4 := blk_frozen BK190.out 4; have hfz2_5 := blk_frozen BK190.out 5; have hfz2_6 := blk_frozen BK190.out 6; have hfz2_7 := blk_frozen BK190.out 7; have hfz2_8 := blk_frozen BK190.out 8; have hfz2_9 := blk_frozen BK190.out 9))
 refine bodyPost_ret (results_cell_row rfl _ _ gb190 24 #[.int .i64 32, .int .i64 24, .bool false, .bool true, .int .i64 255, .int .i64 255, .int .i64 255, .int .i64 16, .int .i64 8, .int .i64 0] (0, 0) _ rfl (by (with_reducible repeat (first | refine blk_drewN ?_ _ | refine blk_drew ?_ | refine blk_alloc ?_ _)); refine blk_put (cs := #[.int .i64 32, .int .i64 24, .bool false, .bool true, .int .i64 255, .int .i64 255, .int .i64 255, .int .i64 16, .int .i64 8, .int .i64 0]) ?_ 9 _ rfl; (with_reducible repeat (first | refine blk_drewN ?_ _ | refine blk_drew ?_ | refine blk_alloc ?_ _)); refine blk_put (cs := #[.int .i64 32, .int .i64 24, .bool false, .bool true, .int .i64 255, .int .i64 255, .int .i64 255, .int .i64 16, .int .i64 0, .int .i64 0]) ?_ 8 _ rfl; (with_reducible repeat (first | refine blk_drewN ?_ _ | refine blk_drew ?_ | refine blk_alloc ?_ _)); refine blk_put (cs := #[.int .i64 32, .int .i64 24, .bool false, .bool true, .int .i64 255, .int .i64 255, .int .i64 255, .int .i64 0, .int .i64 0, .int .i64 0]) ?_ 7 _ rfl; (with_reducible repeat (first | refine blk_drewN ?_ _ | refine blk_drew ?_ | refine blk_alloc ?_ _)); refine blk_put (cs := #[.int .i64 32, .int .i64 24, .bool false, .bool true, .int .i64 255, .int .i64 255, .int .i64 0, .int .i64 0, .int .i64 0, .int .i64 0]) ?_ 6 _ rfl; (with_reducible repeat (first | refine blk_drewN ?_ _ | refine blk_drew ?_ | refine blk_alloc ?_ _)); refine blk_put (cs := #[.int .i64 32, .int .i64 24, .bool false, .bool true, .int .i64 255, .int .i64 0, .int .i64 0, .int .i64 0, .int .i64 0, .int .i64 0]) ?_ 5 _ rfl; (with_reducible repeat (first | refine blk_drewN ?_ _ | refine blk_drew ?_ | refine blk_alloc ?_ _)); refine blk_put (cs := #[.int .i64 32, .int .i64 24, .bool false, .bool true, .int .i64 0, .int .i64 0, .int .i64 0, .int .i64 0, .int .i64 0, .int .i64 0]) ?_ 4 _ rfl; (with_reducible repeat (first | refine blk_drewN ?_ _ | refine blk_drew ?_ | refine blk_alloc ?_ _)); refine blk_put (cs := #[.int .i64 32, .int .i64 24, .bool false, .bool false, .int .i64 0, .int .i64 0, .int .i64 0, .int .i64 0, .int .i64 0, .int .i64 0]) ?_ 3 _ rfl; (with_reducible repeat (first | refine blk_drewN ?_ _ | refine blk_drew ?_ | refine blk_alloc ?_ _)); refine blk_put (cs := #[.int .i64 32, .int .i64 24, .bool false, .bool false, .int .i64 0, .int .i64 0, .int .i64 0, .int .i64 0, .int .i64 0, .int .i64 0]) ?_ 2 _ rfl; (with_reducible repeat (first | refine blk_drewN ?_ _ | refine blk_drew ?_ | refine blk_alloc ?_ _)); refine blk_put (cs := #[.int .i64 32, .int .i64 0, .bool false, .bool false, .int .i64 0, .int .i64 0, .int .i64 0, .int .i64 0, .int .i64 0, .int .i64 0]) ?_ 1 _ rfl; (with_reducible repeat (first | refine blk_drewN ?_ _ | refine blk_drew ?_ | refine blk_alloc ?_ _)); refine blk_put (cs := #[.int .i64 0, .int .i64 0, .bool false, .bool false, .int .i64 0, .int .i64 0, .int .i64 0, .int .i64 0, .int .i64 0, .int .i64 0]) ?_ 0 _ rfl; (with_reducible repeat (first | refine blk_drewN ?_ _ | refine blk_drew ?_ | refine blk_alloc ?_ _)); exact BK190.out) Try.underlying24 rfl (by kernel_rfl)) rfl ?_
 exact ⟨by first | rfl | (simp [errW_none, errW_some] <;> rfl) | (simp [*, errW_none, errW_some] <;> rfl), by repeat (first | (with_reducible first | exact HB.out | apply below_alloc | apply pw_below_drewN | apply below_drew1 | refine below_set ?_ GE190.out) | exact HB.out)⟩

/-! ### miradorlaw23_works: function 8 -/
def miradorlaw23_works.f  : Option (Bool) := (servermsg_Kinds.f (([1] : List Int))).bind fun bt194 => ((servermsg_Say.f 7 false 0 0 0 0 0 0 0 false false 0 0 0 0 0 0 ([] : List Int) (⟨#[]⟩ : ByteArray)).bind fun bt196 => ((format_Standard.f).bind fun bt198 => ((servermsg_Bytes.f 2 1 bt198.1 bt198.2.1 bt198.2.2.1 bt198.2.2.2.1 bt198.2.2.2.2.1 bt198.2.2.2.2.2.1 bt198.2.2.2.2.2.2.1 bt198.2.2.2.2.2.2.2.1 bt198.2.2.2.2.2.2.2.2.1 bt198.2.2.2.2.2.2.2.2.2 (⟨#[120]⟩ : ByteArray)).bind fun bt208 => (if bt208.1.size + 1 ≤ 9223372036854775807 then ((servermsg_StartOf.f (bt208.1 ++ (⟨#[121]⟩ : ByteArray))).bind fun bt210 => (if bt194.1.toList = ([1, 1] : List UInt8) then (if bt194.2 = 0 then (if bt196.1.toList = ([2] : List UInt8) then (if bt196.2 = 0 then (if bt208.2 = 0 then (if bt210.2.2.2.2.2.2.2.2.2.2.2.2.1.toList = ([120] : List UInt8) then (if bt210.1 = 2 then (if bt210.2.2.2.2.2.2.2.2.2.2.2.2.2.1 = (bt208.1.size : Int) then (if bt210.2.2.2.2.2.2.2.2.2.2.2.2.2.2 = 0 then ((servermsg_Result.f (⟨#[]⟩ : ByteArray)).bind fun t226 => (some (t226.toList == ([0, 0, 0, 0] : List UInt8)))) else (some false)) else (some false)) else (some false)) else (some false)) else (some false)) else (some false)) else (some false)) else (some false)) else (some false))) else (none)))))
set_option maxHeartbeats 8000000 in
set_option maxRecDepth 100000 in
theorem miradorlaw23_works.calls1  (r : Bool) (w : World) (hr_ : r = true) (h : miradorlaw23_works.f  = some r) :
  Calls Try.prog 8 #[] w fun e w' => e = .returned (.bool r) ∧ Below w.heap.size w w' := by
 have hu33 := Try.underlying33
 have hu26 := Try.underlying26
 have HB := Aside0.mk (Below.refl w.heap.size w)
 have H : ((servermsg_Kinds.f (([1] : List Int))).bind fun bt194 => ((servermsg_Say.f 7 false 0 0 0 0 0 0 0 false false 0 0 0 0 0 0 ([] : List Int) (⟨#[]⟩ : ByteArray)).bind fun bt196 => ((format_Standard.f).bind fun bt198 => ((servermsg_Bytes.f 2 1 bt198.1 bt198.2.1 bt198.2.2.1 bt198.2.2.2.1 bt198.2.2.2.2.1 bt198.2.2.2.2.2.1 bt198.2.2.2.2.2.2.1 bt198.2.2.2.2.2.2.2.1 bt198.2.2.2.2.2.2.2.2.1 bt198.2.2.2.2.2.2.2.2.2 (⟨#[120]⟩ : ByteArray)).bind fun bt208 => (if bt208.1.size + 1 ≤ 9223372036854775807 then ((servermsg_StartOf.f (bt208.1 ++ (⟨#[121]⟩ : ByteArray))).bind fun bt210 => (if bt194.1.toList = ([1, 1] : List UInt8) then (if bt194.2 = 0 then (if bt196.1.toList = ([2] : List UInt8) then (if bt196.2 = 0 then (if bt208.2 = 0 then (if bt210.2.2.2.2.2.2.2.2.2.2.2.2.1.toList = ([120] : List UInt8) then (if bt210.1 = 2 then (if bt210.2.2.2.2.2.2.2.2.2.2.2.2.2.1 = (bt208.1.size : Int) then (if bt210.2.2.2.2.2.2.2.2.2.2.2.2.2.2 = 0 then ((servermsg_Result.f (⟨#[]⟩ : ByteArray)).bind fun t226 => (some (t226.toList == ([0, 0, 0, 0] : List UInt8)))) else (some false)) else (some false)) else (some false)) else (some false)) else (some false)) else (some false)) else (some false)) else (some false)) else (some false))) else (none)))))) = some r := h
 clear h
 have HRT := Aside0.mk hr_
 clear hr_
 obtain ⟨y191, hy191⟩ : ∃ y_ : List Int, y_ = (([1] : List Int)) := ⟨_, rfl⟩
 replace H : ((servermsg_Kinds.f y191).bind fun bt194 => ((servermsg_Say.f 7 false 0 0 0 0 0 0 0 false false 0 0 0 0 0 0 ([] : List Int) (⟨#[]⟩ : ByteArray)).bind fun bt196 => ((format_Standard.f).bind fun bt198 => ((servermsg_Bytes.f 2 1 bt198.1 bt198.2.1 bt198.2.2.1 bt198.2.2.2.1 bt198.2.2.2.2.1 bt198.2.2.2.2.2.1 bt198.2.2.2.2.2.2.1 bt198.2.2.2.2.2.2.2.1 bt198.2.2.2.2.2.2.2.2.1 bt198.2.2.2.2.2.2.2.2.2 (⟨#[120]⟩ : ByteArray)).bind fun bt208 => (if bt208.1.size + 1 ≤ 9223372036854775807 then ((servermsg_StartOf.f (bt208.1 ++ (⟨#[121]⟩ : ByteArray))).bind fun bt210 => (if bt194.1.toList = ([1, 1] : List UInt8) then (if bt194.2 = 0 then (if bt196.1.toList = ([2] : List UInt8) then (if bt196.2 = 0 then (if bt208.2 = 0 then (if bt210.2.2.2.2.2.2.2.2.2.2.2.2.1.toList = ([120] : List UInt8) then (if bt210.1 = 2 then (if bt210.2.2.2.2.2.2.2.2.2.2.2.2.2.1 = (bt208.1.size : Int) then (if bt210.2.2.2.2.2.2.2.2.2.2.2.2.2.2 = 0 then ((servermsg_Result.f (⟨#[]⟩ : ByteArray)).bind fun t226 => (some (t226.toList == ([0, 0, 0, 0] : List UInt8)))) else (some false)) else (some false)) else (some false)) else (some false)) else (some false)) else (some false)) else (some false)) else (some false)) else (some false))) else (none)))))) = some r := by first | (rw [hy191]; with_reducible exact H) | (have H2_ := (Option.bind_some _ _).symm.trans H; rw [hy191]; with_reducible exact H2_) | (have H2_ := (Option.bind_some _ _).symm.trans H; with_reducible exact H2_) | with_reducible exact H | (rw [hy191]; exact H) | exact H
 have Ny191 := Aside0.mk hy191
 clear hy191
 replace H := Option.bind_eq_some_iff.mp H
 obtain ⟨⟨t194, t195⟩, A10, H⟩ := H
 replace H : ((servermsg_Say.f 7 false 0 0 0 0 0 0 0 false false 0 0 0 0 0 0 ([] : List Int) (⟨#[]⟩ : ByteArray)).bind fun bt196 => ((format_Standard.f).bind fun bt198 => ((servermsg_Bytes.f 2 1 bt198.1 bt198.2.1 bt198.2.2.1 bt198.2.2.2.1 bt198.2.2.2.2.1 bt198.2.2.2.2.2.1 bt198.2.2.2.2.2.2.1 bt198.2.2.2.2.2.2.2.1 bt198.2.2.2.2.2.2.2.2.1 bt198.2.2.2.2.2.2.2.2.2 (⟨#[120]⟩ : ByteArray)).bind fun bt208 => (if bt208.1.size + 1 ≤ 9223372036854775807 then ((servermsg_StartOf.f (bt208.1 ++ (⟨#[121]⟩ : ByteArray))).bind fun bt210 => (if t194.toList = ([1, 1] : List UInt8) then (if t195 = 0 then (if bt196.1.toList = ([2] : List UInt8) then (if bt196.2 = 0 then (if bt208.2 = 0 then (if bt210.2.2.2.2.2.2.2.2.2.2.2.2.1.toList = ([120] : List UInt8) then (if bt210.1 = 2 then (if bt210.2.2.2.2.2.2.2.2.2.2.2.2.2.1 = (bt208.1.size : Int) then (if bt210.2.2.2.2.2.2.2.2.2.2.2.2.2.2 = 0 then ((servermsg_Result.f (⟨#[]⟩ : ByteArray)).bind fun t226 => (some (t226.toList == ([0, 0, 0, 0] : List UInt8)))) else (some false)) else (some false)) else (some false)) else (some false)) else (some false)) else (some false)) else (some false)) else (some false)) else (some false))) else (none))))) = some r := H
 have A1 := Aside0.mk A10
 clear A10
 replace H := Option.bind_eq_some_iff.mp H
 obtain ⟨⟨t196, t197⟩, A20, H⟩ := H
 replace H : ((format_Standard.f).bind fun bt198 => ((servermsg_Bytes.f 2 1 bt198.1 bt198.2.1 bt198.2.2.1 bt198.2.2.2.1 bt198.2.2.2.2.1 bt198.2.2.2.2.2.1 bt198.2.2.2.2.2.2.1 bt198.2.2.2.2.2.2.2.1 bt198.2.2.2.2.2.2.2.2.1 bt198.2.2.2.2.2.2.2.2.2 (⟨#[120]⟩ : ByteArray)).bind fun bt208 => (if bt208.1.size + 1 ≤ 9223372036854775807 then ((servermsg_StartOf.f (bt208.1 ++ (⟨#[121]⟩ : ByteArray))).bind fun bt210 => (if t194.toList = ([1, 1] : List UInt8) then (if t195 = 0 then (if t196.toList = ([2] : List UInt8) then (if t197 = 0 then (if bt208.2 = 0 then (if bt210.2.2.2.2.2.2.2.2.2.2.2.2.1.toList = ([120] : List UInt8) then (if bt210.1 = 2 then (if bt210.2.2.2.2.2.2.2.2.2.2.2.2.2.1 = (bt208.1.size : Int) then (if bt210.2.2.2.2.2.2.2.2.2.2.2.2.2.2 = 0 then ((servermsg_Result.f (⟨#[]⟩ : ByteArray)).bind fun t226 => (some (t226.toList == ([0, 0, 0, 0] : List UInt8)))) else (some false)) else (some false)) else (some false)) else (some false)) else (some false)) else (some false)) else (some false)) else (some false)) else (some false))) else (none)))) = some r := H
 have A2 := Aside0.mk A20
 clear A20
 replace H := Option.bind_eq_some_iff.mp H
 obtain ⟨⟨t198, t199, t200, t201, t202, t203, t204, t205, t206, t207⟩, A30, H⟩ := H
 replace H : ((servermsg_Bytes.f 2 1 t198 t199 t200 t201 t202 t203 t204 t205 t206 t207 (⟨#[120]⟩ : ByteArray)).bind fun bt208 => (if bt208.1.size + 1 ≤ 9223372036854775807 then ((servermsg_StartOf.f (bt208.1 ++ (⟨#[121]⟩ : ByteArray))).bind fun bt210 => (if t194.toList = ([1, 1] : List UInt8) then (if t195 = 0 then (if t196.toList = ([2] : List UInt8) then (if t197 = 0 then (if bt208.2 = 0 then (if bt210.2.2.2.2.2.2.2.2.2.2.2.2.1.toList = ([120] : List UInt8) then (if bt210.1 = 2 then (if bt210.2.2.2.2.2.2.2.2.2.2.2.2.2.1 = (bt208.1.size : Int) then (if bt210.2.2.2.2.2.2.2.2.2.2.2.2.2.2 = 0 then ((servermsg_Result.f (⟨#[]⟩ : ByteArray)).bind fun t226 => (some (t226.toList == ([0, 0, 0, 0] : List UInt8)))) else (some false)) else (some false)) else (some false)) else (some false)) else (some false)) else (some false)) else (some false)) else (some false)) else (some false))) else (none))) = some r := H
 have A3 := Aside0.mk A30
 clear A30
 replace H := Option.bind_eq_some_iff.mp H
 obtain ⟨⟨t208, t209⟩, A40, H⟩ := H
 replace H : (if t208.size + 1 ≤ 9223372036854775807 then ((servermsg_StartOf.f (t208 ++ (⟨#[121]⟩ : ByteArray))).bind fun bt210 => (if t194.toList = ([1, 1] : List UInt8) then (if t195 = 0 then (if t196.toList = ([2] : List UInt8) then (if t197 = 0 then (if t209 = 0 then (if bt210.2.2.2.2.2.2.2.2.2.2.2.2.1.toList = ([120] : List UInt8) then (if bt210.1 = 2 then (if bt210.2.2.2.2.2.2.2.2.2.2.2.2.2.1 = (t208.size : Int) then (if bt210.2.2.2.2.2.2.2.2.2.2.2.2.2.2 = 0 then ((servermsg_Result.f (⟨#[]⟩ : ByteArray)).bind fun t226 => (some (t226.toList == ([0, 0, 0, 0] : List UInt8)))) else (some false)) else (some false)) else (some false)) else (some false)) else (some false)) else (some false)) else (some false)) else (some false)) else (some false))) else (none)) = some r := H
 have A4 := Aside0.mk A40
 clear A40
 by_cases c5 : t208.size + 1 ≤ 9223372036854775807
 ·rw [if_pos c5] at H
  have c5b0 := eq_true c5
  have c5b1 : decide (t208.size + 1 ≤ 9223372036854775807) = true := decide_eq_true c5
  try have c5b2 : (9223372036854775807 < t208.size + 1) = False := eq_false (Nat.not_lt.2 c5)
  replace H := Option.bind_eq_some_iff.mp H
  obtain ⟨⟨t210, t211, t212, t213, t214, t215, t216, t217, t218, t219, t220, t221, t222, t223, t224⟩, A60, H⟩ := H
  replace H : (if t194.toList = ([1, 1] : List UInt8) then (if t195 = 0 then (if t196.toList = ([2] : List UInt8) then (if t197 = 0 then (if t209 = 0 then (if t222.toList = ([120] : List UInt8) then (if t210 = 2 then (if t223 = (t208.size : Int) then (if t224 = 0 then ((servermsg_Result.f (⟨#[]⟩ : ByteArray)).bind fun t226 => (some (t226.toList == ([0, 0, 0, 0] : List UInt8)))) else (some false)) else (some false)) else (some false)) else (some false)) else (some false)) else (some false)) else (some false)) else (some false)) else (some false)) = some r := H
  have A6 := Aside0.mk A60
  clear A60
  by_cases c7 : t194.toList = ([1, 1] : List UInt8)
  ·rw [if_pos c7] at H
   have c7b0 : (t194.toList == ([1, 1] : List UInt8)) = true := beq_iff_eq.mpr c7
   have c7b1 : (t194.toList != ([1, 1] : List UInt8)) = false := bne_eq_false_iff_eq.mpr c7
   clear c7
   by_cases c8 : t195 = 0
   ·rw [if_pos c8] at H
    have c8b0 : (t195 == 0) = true := beq_iff_eq.mpr c8
    have c8b1 : (t195 != 0) = false := bne_eq_false_iff_eq.mpr c8
    clear c8
    by_cases c9 : t196.toList = ([2] : List UInt8)
    ·rw [if_pos c9] at H
     have c9b0 : (t196.toList == ([2] : List UInt8)) = true := beq_iff_eq.mpr c9
     have c9b1 : (t196.toList != ([2] : List UInt8)) = false := bne_eq_false_iff_eq.mpr c9
     clear c9
     by_cases c10 : t197 = 0
     ·rw [if_pos c10] at H
      have c10b0 : (t197 == 0) = true := beq_iff_eq.mpr c10
      have c10b1 : (t197 != 0) = false := bne_eq_false_iff_eq.mpr c10
      clear c10
      by_cases c11 : t209 = 0
      ·rw [if_pos c11] at H
       have c11b0 : (t209 == 0) = true := beq_iff_eq.mpr c11
       have c11b1 : (t209 != 0) = false := bne_eq_false_iff_eq.mpr c11
       clear c11
       by_cases c12 : t222.toList = ([120] : List UInt8)
       ·rw [if_pos c12] at H
        have c12b0 : (t222.toList == ([120] : List UInt8)) = true := beq_iff_eq.mpr c12
        have c12b1 : (t222.toList != ([120] : List UInt8)) = false := bne_eq_false_iff_eq.mpr c12
        clear c12
        by_cases c13 : t210 = 2
        ·rw [if_pos c13] at H
         have c13b0 : (t210 == 2) = true := beq_iff_eq.mpr c13
         have c13b1 : (t210 != 2) = false := bne_eq_false_iff_eq.mpr c13
         clear c13
         by_cases c14 : t223 = (t208.size : Int)
         ·rw [if_pos c14] at H
          have c14b0 : (t223 == (t208.size : Int)) = true := beq_iff_eq.mpr c14
          have c14b1 : (t223 != (t208.size : Int)) = false := bne_eq_false_iff_eq.mpr c14
          clear c14
          by_cases c15 : t224 = 0
          ·rw [if_pos c15] at H
           have c15b0 : (t224 == 0) = true := beq_iff_eq.mpr c15
           have c15b1 : (t224 != 0) = false := bne_eq_false_iff_eq.mpr c15
           clear c15
           replace H := Option.bind_eq_some_iff.mp H
           obtain ⟨t226, A160, H⟩ := H
           replace H : (some (t226.toList == ([0, 0, 0, 0] : List UInt8))) = some r := H
           have A16 := Aside0.mk A160
           clear A160
           obtain rfl := Option.some.inj H
           go_enter Try.func8, Try.ntmps8
           go_wp2_with (first | ((with_reducible refine gate_dst (N := 11) rfl ?_); (try (refine gate_guard (by rfl) ?_; dsimp only)); refine Kd.R_lit (Kd.int .i64) _ 3 ?hg (N := 11) ?hd (xs := ([1] : List Int)) (inner := [.int .i64 1]) (ok := fun _ => True) (okp := fun _ => True) ?hr ?hp (fun _ hk => hk) trivial (Below.refl _ _) (Nat.le_refl _) (by simp) ?_; (case hd => rfl); (case hg => rfl); (case hr => first | (go_simp; done) | (go_simp; rfl)); (case hp => exact (Reps.one (show Kd.M (Kd.int .i64) _ _ _ 1 [.int .i64 1] from rfl) (Reps.none _ _))); intro v192 w17 ho18 hb hg_ hnew_; clear hg_ hnew_; (first | rw [← Ny191.out] at ho18 | (simp only [Int.reduceToNat] at ho18; rw [← Ny191.out] at ho18)); have n0_ := Aside0.mk (Kd.R_lower ho18 (below_size (by repeat (first | (with_reducible first | exact HB.out | apply below_alloc | apply pw_below_drewN | apply below_drew1) | exact HB.out)))); have n1_ := Aside0.mk (below_step (by repeat (first | (with_reducible first | exact HB.out | apply below_alloc | apply pw_below_drewN | apply below_drew1) | exact HB.out)) hb); clear HB; have HO193 := n0_; have HB := n1_; clear n0_ n1_; clear hb ho18; obtain ⟨Ao19, co19, eo19⟩ := Kd.R_slice HO193.out; subst eo19) | ((with_reducible refine gate_callee (f := 9) rfl ?_); refine goesL_ (some 12) rfl rfl Try.func9 (by kernel_rfl) rfl #[.slice Ao19 y191.length co19] rfl (by (try simp only [List.map_toArray, List.map_cons, List.map_nil]); first | done | rfl | (simp only [List.length_drop, List.length_take]; rfl)) ?_; (with_reducible refine (servermsg_Kinds.calls _ _ y191 t194 t195 _ ?side1 ?side2 A1.out).mono ?_); (case side1 => repeat (first | exact (Kd.R_reads' HO193.out).2.2 | (with_reducible refine Kd.C_alloc ?_ _) | (with_reducible refine Kd.C_drewN ?_ _) | (with_reducible refine Kd.C_drew ?_))); (case side2 => exact (Kd.R_reads' HO193.out).2.1); rintro e w20 ⟨rfl, hb⟩; refine ⟨_, rfl, ?_⟩; have n0_ := Aside0.mk (Kd.R_below (by (with_reducible repeat (first | apply Kd.R_alloc | apply Kd.R_drewN | apply Kd.R_drew)); exact HO193.out) hb); have n1_ := Aside0.mk (below_step (by repeat (first | (with_reducible first | exact HB.out | apply below_alloc | apply pw_below_drewN | apply below_drew1) | exact HB.out)) hb); clear HO193; clear HB; have HO193 := n0_; have HB := n1_; clear n0_ n1_; (try clear hb); (try clear hb2); (try clear hk); (try clear hi)) | ((with_reducible refine gate_callee (f := 15) rfl ?_); refine goesL_ (some 17) rfl rfl Try.func15 (by kernel_rfl) rfl #[.agg #[.int .i64 7, .bool false, .int .i64 0, .int .i64 0, .int .i64 0, .int .i64 0, .int .i64 0, .int .i64 0, .int .i64 0, .bool false, .bool false, .int .i64 0, .int .i64 0, .int .i64 0, .int .i64 0, .int .i64 0, .int .i64 0, .slice none 0 0, .string (⟨#[]⟩ : ByteArray)]] rfl (by (try simp only [List.map_toArray, List.map_cons, List.map_nil]); first | done | rfl | (simp only [List.length_drop, List.length_take]; rfl)) ?_; (refine (servermsg_Say.calls 7 false 0 0 0 0 0 0 0 false false 0 0 0 0 0 0 _ _ ([] : List Int) (⟨#[]⟩ : ByteArray) t196 t197 _ ?side1 ?side2 A2.out).mono ?_); (case side1 => exact Kd.C_nil _ _); (case side2 => exact Nat.le_refl _); rintro e w21 ⟨rfl, hb⟩; refine ⟨_, rfl, ?_⟩; have n0_ := Aside0.mk (Kd.R_below (by (with_reducible repeat (first | apply Kd.R_alloc | apply Kd.R_drewN | apply Kd.R_drew)); exact HO193.out) hb); have n1_ := Aside0.mk (below_step (by repeat (first | (with_reducible first | exact HB.out | apply below_alloc | apply pw_below_drewN | apply below_drew1) | exact HB.out)) hb); clear HO193; clear HB; have HO193 := n0_; have HB := n1_; clear n0_ n1_; (try clear hb); (try clear hb2); (try clear hk); (try clear hi)) | ((with_reducible refine gate_callee (f := 32) rfl ?_); refine goesL_ (some 21) rfl rfl Try.func32 (by kernel_rfl) rfl #[] rfl (by (try simp only [List.map_toArray, List.map_cons, List.map_nil]); first | done | rfl | (simp only [List.length_drop, List.length_take]; rfl)) ?_; (with_reducible refine (format_Standard.calls  t198 t199 t200 t201 t202 t203 t204 t205 t206 t207 _ A3.out).mono ?_); rintro e w22 ⟨rfl, hb⟩; refine ⟨_, rfl, ?_⟩; have n0_ := Aside0.mk (Kd.R_below (by (with_reducible repeat (first | apply Kd.R_alloc | apply Kd.R_drewN | apply Kd.R_drew)); exact HO193.out) hb); have n1_ := Aside0.mk (below_step (by repeat (first | (with_reducible first | exact HB.out | apply below_alloc | apply pw_below_drewN | apply below_drew1) | exact HB.out)) hb); clear HO193; clear HB; have HO193 := n0_; have HB := n1_; clear n0_ n1_; (try clear hb); (try clear hb2); (try clear hk); (try clear hi)) | ((with_reducible refine gate_callee (f := 11) rfl ?_); refine goesL_ (some 23) rfl rfl Try.func11 (by kernel_rfl) rfl #[.agg #[.int .i64 2, .int .i64 1, .int .i64 t198, .int .i64 t199, .bool t200, .bool t201, .int .i64 t202, .int .i64 t203, .int .i64 t204, .int .i64 t205, .int .i64 t206, .int .i64 t207, .string (⟨#[120]⟩ : ByteArray)]] rfl (by (try simp only [List.map_toArray, List.map_cons, List.map_nil]); first | done | rfl | (simp only [List.length_drop, List.length_take]; rfl)) ?_; (with_reducible refine (servermsg_Bytes.calls 2 1 t198 t199 t200 t201 t202 t203 t204 t205 t206 t207 (⟨#[120]⟩ : ByteArray) t208 t209 _ A4.out).mono ?_); rintro e w23 ⟨rfl, hb⟩; refine ⟨_, rfl, ?_⟩; have n0_ := Aside0.mk (Kd.R_below (by (with_reducible repeat (first | apply Kd.R_alloc | apply Kd.R_drewN | apply Kd.R_drew)); exact HO193.out) hb); have n1_ := Aside0.mk (below_step (by repeat (first | (with_reducible first | exact HB.out | apply below_alloc | apply pw_below_drewN | apply below_drew1) | exact HB.out)) hb); clear HO193; clear HB; have HO193 := n0_; have HB := n1_; clear n0_ n1_; (try clear hb); (try clear hb2); (try clear hk); (try clear hi)) | ((with_reducible refine gate_callee (f := 25) rfl ?_); refine goesL_ (some 29) rfl rfl Try.func25 (by kernel_rfl) rfl #[.string (t208 ++ (⟨#[121]⟩ : ByteArray))] rfl (by (try simp only [List.map_toArray, List.map_cons, List.map_nil]); first | done | rfl | (simp only [List.length_drop, List.length_take]; rfl)) ?_; (with_reducible refine (servermsg_StartOf.calls (t208 ++ (⟨#[121]⟩ : ByteArray)) t210 t211 t212 t213 t214 t215 t216 t217 t218 t219 t220 t221 t222 t223 t224 _ A6.out).mono ?_); rintro e w24 ⟨rfl, hb⟩; refine ⟨_, rfl, ?_⟩; have n0_ := Aside0.mk (Kd.R_below (by (with_reducible repeat (first | apply Kd.R_alloc | apply Kd.R_drewN | apply Kd.R_drew)); exact HO193.out) hb); have n1_ := Aside0.mk (below_step (by repeat (first | (with_reducible first | exact HB.out | apply below_alloc | apply pw_below_drewN | apply below_drew1) | exact HB.out)) hb); clear HO193; clear HB; have HO193 := n0_; have HB := n1_; clear n0_ n1_; (try clear hb); (try clear hb2); (try clear hk); (try clear hi)) | ((with_reducible refine gate_dst (N := 7) rfl ?_); (try (refine gate_guard (by rfl) ?_; dsimp only)); refine box_event ?hg (N := 7) ?hd (cs := #[.int .i64 0, .int .i64 0, .int .i64 0, .int .i64 0, .bool false, .bool false, .int .i64 0, .int .i64 0, .int .i64 0, .int .i64 0, .int .i64 0, .int .i64 0, .string (⟨#[]⟩ : ByteArray)]) (t := 26) ?hr ?_; (case hd => rfl); (case hg => rfl); (case hr => first | (go_simp; done) | (go_simp; rfl)); intro gb225 hg w25 hbox hb; have n0_ := Aside0.mk (Kd.R_below (by (with_reducible repeat (first | apply Kd.R_alloc | apply Kd.R_drewN | apply Kd.R_drew)); exact HO193.out) hb); have n1_ := Aside0.mk (below_step (by repeat (first | (with_reducible first | exact HB.out | apply below_alloc | apply pw_below_drewN | apply below_drew1) | exact HB.out)) hb); have n2_ := Aside0.mk (hbox); have n3_ := Aside0.mk ((by rw [hg]; exact (below_size (by repeat (first | (with_reducible first | exact HB.out | apply below_alloc | apply pw_below_drewN | apply below_drew1) | exact HB.out))) : w.heap.size ≤ gb225)); have n4_ := Aside0.mk ((by rw [hg]; exact (below_size (by repeat (first | (with_reducible first | exact HB.out | apply below_alloc | apply pw_below_drewN | apply below_drew1) | exact HB.out))) : w.heap.size ≤ gb225)); clear HO193; clear HB; have HO193 := n0_; have HB := n1_; have BK225 := n2_; have GW225 := n3_; have GE225 := n4_; clear n0_ n1_ n2_ n3_ n4_; clear hb hbox hg; have hcz26_0 : w25.cell? ⟨gb225, 0, none⟩ = some (.int .i64 0) := (blk_cell BK225.out 0).trans rfl; have hcz26_1 : w25.cell? ⟨gb225, 1, none⟩ = some (.int .i64 0) := (blk_cell BK225.out 1).trans rfl; have hcz26_2 : w25.cell? ⟨gb225, 2, none⟩ = some (.int .i64 0) := (blk_cell BK225.out 2).trans rfl; have hcz26_3 : w25.cell? ⟨gb225, 3, none⟩ = some (.int .i64 0) := (blk_cell BK225.out 3).trans rfl; have hcz26_4 : w25.cell? ⟨gb225, 4, none⟩ = some (.bool false) := (blk_cell BK225.out 4).trans rfl; have hcz26_5 : w25.cell? ⟨gb225, 5, none⟩ = some (.bool false) := (blk_cell BK225.out 5).trans rfl; have hcz26_6 : w25.cell? ⟨gb225, 6, none⟩ = some (.int .i64 0) := (blk_cell BK225.out 6).trans rfl; have hcz26_7 : w25.cell? ⟨gb225, 7, none⟩ = some (.int .i64 0) := (blk_cell BK225.out 7).trans rfl; have hcz26_8 : w25.cell? ⟨gb225, 8, none⟩ = some (.int .i64 0) := (blk_cell BK225.out 8).trans rfl; have hcz26_9 : w25.cell? ⟨gb225, 9, none⟩ = some (.int .i64 0) := (blk_cell BK225.out 9).trans rfl; have hcz26_10 : w25.cell? ⟨gb225, 10, none⟩ = some (.int .i64 0) := (blk_cell BK225.out 10).trans rfl; have hcz26_11 : w25.cell? ⟨gb225, 11, none⟩ = some (.int .i64 0) := (blk_cell BK225.out 11).trans rfl; have hcz26_12 : w25.cell? ⟨gb225, 12, none⟩ = some (.string (⟨#[]⟩ : ByteArray)) := (blk_cell BK225.out 12).trans rfl; have hfz26_0 := blk_frozen BK225.out 0; have hfz26_1 := blk_frozen BK225.out 1; have hfz26_2 := blk_frozen BK225.out 2; have hfz26_3 := blk_frozen BK225.out 3; have hfz26_4 := blk_frozen BK225.out 4; have hfz26_5 := blk_frozen BK225.out 5; have hfz26_6 := blk_frozen BK225.out 6; have hfz26_7 := blk_frozen BK225.out 7; have hfz26_8 := blk_frozen BK225.out 8; have hfz26_9 := blk_frozen BK225.out 9; have hfz26_10 := blk_frozen BK225.out 10; have hfz26_11 := blk_frozen BK225.out 11; have hfz26_12 := blk_frozen BK225.out 12) | (go_at_call 17; (with_reducible refine (servermsg_Result.calls (⟨#[]⟩ : ByteArray) t226 _ A16.out).mono ?_); rintro e w27 ⟨rfl, hb⟩; have n0_ := Aside0.mk (Kd.R_below (by (with_reducible repeat (first | apply Kd.R_alloc | apply Kd.R_drewN | apply Kd.R_drew)); exact (Kd.R_mono (Kd.R_far (p := ⟨gb225, 12, none⟩) (Kd.R_far (p := ⟨gb225, 11, none⟩) (Kd.R_far (p := ⟨gb225, 10, none⟩) (Kd.R_far (p := ⟨gb225, 9, none⟩) (Kd.R_far (p := ⟨gb225, 8, none⟩) (Kd.R_far (p := ⟨gb225, 7, none⟩) (Kd.R_far (p := ⟨gb225, 6, none⟩) (Kd.R_far (p := ⟨gb225, 5, none⟩) (Kd.R_far (p := ⟨gb225, 4, none⟩) (Kd.R_far (p := ⟨gb225, 3, none⟩) (Kd.R_far (p := ⟨gb225, 2, none⟩) (Kd.R_far (p := ⟨gb225, 1, none⟩) (Kd.R_far (p := ⟨gb225, 0, none⟩) (Kd.R_types HO193.out BK225.out (by decide)) (fun _ hk => hk.2) (.int .i64 t210)) (fun _ hk => hk.2) (.int .i64 t211)) (fun _ hk => hk.2) (.int .i64 t212)) (fun _ hk => hk.2) (.int .i64 t213)) (fun _ hk => hk.2) (.bool t214)) (fun _ hk => hk.2) (.bool t215)) (fun _ hk => hk.2) (.int .i64 t216)) (fun _ hk => hk.2) (.int .i64 t217)) (fun _ hk => hk.2) (.int .i64 t218)) (fun _ hk => hk.2) (.int .i64 t219)) (fun _ hk => hk.2) (.int .i64 t220)) (fun _ hk => hk.2) (.int .i64 t221)) (fun _ hk => hk.2) (.string t222)) (fun _ h_ => h_.1))) hb); have n1_ := Aside0.mk (blk_below (g := gb225) (o := .cells #[.int .i64 t210, .int .i64 t211, .int .i64 t212, .int .i64 t213, .bool t214, .bool t215, .int .i64 t216, .int .i64 t217, .int .i64 t218, .int .i64 t219, .int .i64 t220, .int .i64 t221, .string t222] 26 (0, 0)) (by (with_reducible repeat (first | refine blk_drewN ?_ _ | refine blk_drew ?_ | refine blk_alloc ?_ _)); refine blk_put (cs := #[.int .i64 t210, .int .i64 t211, .int .i64 t212, .int .i64 t213, .bool t214, .bool t215, .int .i64 t216, .int .i64 t217, .int .i64 t218, .int .i64 t219, .int .i64 t220, .int .i64 t221, .string (⟨#[]⟩ : ByteArray)]) ?_ 12 _ rfl; (with_reducible repeat (first | refine blk_drewN ?_ _ | refine blk_drew ?_ | refine blk_alloc ?_ _)); refine blk_put (cs := #[.int .i64 t210, .int .i64 t211, .int .i64 t212, .int .i64 t213, .bool t214, .bool t215, .int .i64 t216, .int .i64 t217, .int .i64 t218, .int .i64 t219, .int .i64 t220, .int .i64 0, .string (⟨#[]⟩ : ByteArray)]) ?_ 11 _ rfl; (with_reducible repeat (first | refine blk_drewN ?_ _ | refine blk_drew ?_ | refine blk_alloc ?_ _)); refine blk_put (cs := #[.int .i64 t210, .int .i64 t211, .int .i64 t212, .int .i64 t213, .bool t214, .bool t215, .int .i64 t216, .int .i64 t217, .int .i64 t218, .int .i64 t219, .int .i64 0, .int .i64 0, .string (⟨#[]⟩ : ByteArray)]) ?_ 10 _ rfl; (with_reducible repeat (first | refine blk_drewN ?_ _ | refine blk_drew ?_ | refine blk_alloc ?_ _)); refine blk_put (cs := #[.int .i64 t210, .int .i64 t211, .int .i64 t212, .int .i64 t213, .bool t214, .bool t215, .int .i64 t216, .int .i64 t217, .int .i64 t218, .int .i64 0, .int .i64 0, .int .i64 0, .string (⟨#[]⟩ : ByteArray)]) ?_ 9 _ rfl; (with_reducible repeat (first | refine blk_drewN ?_ _ | refine blk_drew ?_ | refine blk_alloc ?_ _)); refine blk_put (cs := #[.int .i64 t210, .int .i64 t211, .int .i64 t212, .int .i64 t213, .bool t214, .bool t215, .int .i64 t216, .int .i64 t217, .int .i64 0, .int .i64 0, .int .i64 0, .int .i64 0, .string (⟨#[]⟩ : ByteArray)]) ?_ 8 _ rfl; (with_reducible repeat (first | refine blk_drewN ?_ _ | refine blk_drew ?_ | refine blk_alloc ?_ _)); refine blk_put (cs := #[.int .i64 t210, .int .i64 t211, .int .i64 t212, .int .i64 t213, .bool t214, .bool t215, .int .i64 t216, .int .i64 0, .int .i64 0, .int .i64 0, .int .i64 0, .int .i64 0, .string (⟨#[]⟩ : ByteArray)]) ?_ 7 _ rfl; (with_reducible repeat (first | refine blk_drewN ?_ _ | refine blk_drew ?_ | refine blk_alloc ?_ _)); refine blk_put (cs := #[.int .i64 t210, .int .i64 t211, .int .i64 t212, .int .i64 t213, .bool t214, .bool t215, .int .i64 0, .int .i64 0, .int .i64 0, .int .i64 0, .int .i64 0, .int .i64 0, .string (⟨#[]⟩ : ByteArray)]) ?_ 6 _ rfl; (with_reducible repeat (first | refine blk_drewN ?_ _ | refine blk_drew ?_ | refine blk_alloc ?_ _)); refine blk_put (cs := #[.int .i64 t210, .int .i64 t211, .int .i64 t212, .int .i64 t213, .bool t214, .bool false, .int .i64 0, .int .i64 0, .int .i64 0, .int .i64 0, .int .i64 0, .int .i64 0, .string (⟨#[]⟩ : ByteArray)]) ?_ 5 _ rfl; (with_reducible repeat (first | refine blk_drewN ?_ _ | refine blk_drew ?_ | refine blk_alloc ?_ _)); refine blk_put (cs := #[.int .i64 t210, .int .i64 t211, .int .i64 t212, .int .i64 t213, .bool false, .bool false, .int .i64 0, .int .i64 0, .int .i64 0, .int .i64 0, .int .i64 0, .int .i64 0, .string (⟨#[]⟩ : ByteArray)]) ?_ 4 _ rfl; (with_reducible repeat (first | refine blk_drewN ?_ _ | refine blk_drew ?_ | refine blk_alloc ?_ _)); refine blk_put (cs := #[.int .i64 t210, .int .i64 t211, .int .i64 t212, .int .i64 0, .bool false, .bool false, .int .i64 0, .int .i64 0, .int .i64 0, .int .i64 0, .int .i64 0, .int .i64 0, .string (⟨#[]⟩ : ByteArray)]) ?_ 3 _ rfl; (with_reducible repeat (first | refine blk_drewN ?_ _ | refine blk_drew ?_ | refine blk_alloc ?_ _)); refine blk_put (cs := #[.int .i64 t210, .int .i64 t211, .int .i64 0, .int .i64 0, .bool false, .bool false, .int .i64 0, .int .i64 0, .int .i64 0, .int .i64 0, .int .i64 0, .int .i64 0, .string (⟨#[]⟩ : ByteArray)]) ?_ 2 _ rfl; (with_reducible repeat (first | refine blk_drewN ?_ _ | refine blk_drew ?_ | refine blk_alloc ?_ _)); refine blk_put (cs := #[.int .i64 t210, .int .i64 0, .int .i64 0, .int .i64 0, .bool false, .bool false, .int .i64 0, .int .i64 0, .int .i64 0, .int .i64 0, .int .i64 0, .int .i64 0, .string (⟨#[]⟩ : ByteArray)]) ?_ 1 _ rfl; (with_reducible repeat (first | refine blk_drewN ?_ _ | refine blk_drew ?_ | refine blk_alloc ?_ _)); refine blk_put (cs := #[.int .i64 0, .int .i64 0, .int .i64 0, .int .i64 0, .bool false, .bool false, .int .i64 0, .int .i64 0, .int .i64 0, .int .i64 0, .int .i64 0, .int .i64 0, .string (⟨#[]⟩ : ByteArray)]) ?_ 0 _ rfl; (with_reducible repeat (first | refine blk_drewN ?_ _ | refine blk_drew ?_ | refine blk_alloc ?_ _)); exact BK225.out) hb); have n2_ := Aside0.mk (below_step (by repeat (first | (with_reducible first | exact HB.out | apply below_alloc | apply pw_below_drewN | apply below_drew1 | refine below_set ?_ GE225.out) | exact HB.out)) hb); clear HO193; clear BK225; clear HB; have HO193 := n0_; have BK225 := n1_; have HB := n2_; clear n0_ n1_ n2_; (try clear hb); (try clear hb2); (try clear hk); (try clear hi)))
           go_ret
           exact ⟨by first | rfl | (simp [errW_none, errW_some] <;> rfl) | (simp [*, errW_none, errW_some] <;> rfl), by repeat (first | (with_reducible first | exact HB.out | apply below_alloc | apply pw_below_drewN | apply below_drew1 | refine below_set ?_ GE225.out) | exact HB.out)⟩
          ·rw [if_neg c15] at H
           have c15b0 : (t224 == 0) = false := beq_eq_false_iff_ne.mpr c15
           have c15b1 : (t224 != 0) = true := bne_iff_ne.mpr c15
           rw [HRT.out] at H
           exact absurd (Option.some.inj H) (by decide)
         ·rw [if_neg c14] at H
          have c14b0 : (t223 == (t208.size : Int)) = false := beq_eq_false_iff_ne.mpr c14
          have c14b1 : (t223 != (t208.size : Int)) = true := bne_iff_ne.mpr c14
          rw [HRT.out] at H
          exact absurd (Option.some.inj H) (by decide)
        ·rw [if_neg c13] at H
         have c13b0 : (t210 == 2) = false := beq_eq_false_iff_ne.mpr c13
         have c13b1 : (t210 != 2) = true := bne_iff_ne.mpr c13
         rw [HRT.out] at H
         exact absurd (Option.some.inj H) (by decide)
       ·rw [if_neg c12] at H
        have c12b0 : (t222.toList == ([120] : List UInt8)) = false := beq_eq_false_iff_ne.mpr c12
        have c12b1 : (t222.toList != ([120] : List UInt8)) = true := bne_iff_ne.mpr c12
        rw [HRT.out] at H
        exact absurd (Option.some.inj H) (by decide)
      ·rw [if_neg c11] at H
       have c11b0 : (t209 == 0) = false := beq_eq_false_iff_ne.mpr c11
       have c11b1 : (t209 != 0) = true := bne_iff_ne.mpr c11
       rw [HRT.out] at H
       exact absurd (Option.some.inj H) (by decide)
     ·rw [if_neg c10] at H
      have c10b0 : (t197 == 0) = false := beq_eq_false_iff_ne.mpr c10
      have c10b1 : (t197 != 0) = true := bne_iff_ne.mpr c10
      rw [HRT.out] at H
      exact absurd (Option.some.inj H) (by decide)
    ·rw [if_neg c9] at H
     have c9b0 : (t196.toList == ([2] : List UInt8)) = false := beq_eq_false_iff_ne.mpr c9
     have c9b1 : (t196.toList != ([2] : List UInt8)) = true := bne_iff_ne.mpr c9
     rw [HRT.out] at H
     exact absurd (Option.some.inj H) (by decide)
   ·rw [if_neg c8] at H
    have c8b0 : (t195 == 0) = false := beq_eq_false_iff_ne.mpr c8
    have c8b1 : (t195 != 0) = true := bne_iff_ne.mpr c8
    rw [HRT.out] at H
    exact absurd (Option.some.inj H) (by decide)
  ·rw [if_neg c7] at H
   have c7b0 : (t194.toList == ([1, 1] : List UInt8)) = false := beq_eq_false_iff_ne.mpr c7
   have c7b1 : (t194.toList != ([1, 1] : List UInt8)) = true := bne_iff_ne.mpr c7
   rw [HRT.out] at H
   exact absurd (Option.some.inj H) (by decide)
 ·rw [if_neg c5] at H
  exact absurd H (by simp)
theorem miradorlaw23_works.at0 : miradorlaw23_works.f = some true := by first | kernel_rfl | decide +kernel
theorem miradorlaw23_works.true_ (r : Bool) (h : miradorlaw23_works.f = some r) : r = true := Option.some.inj (h.symm.trans miradorlaw23_works.at0)
theorem miradorlaw23_works.calls  (r : Bool) (w : World) (h : miradorlaw23_works.f  = some r) :
  Calls Try.prog 8 #[] w fun e w' => e = .returned (.bool r) ∧ Below w.heap.size w w' := miradorlaw23_works.calls1 r w (miradorlaw23_works.true_ r h) h

/-! ### miradorref01_Size: function 87 -/
def miradorref01_Size.f (a0 : Int) : Option (Bool) := if a0 = 1 then (some true) else (if a0 = 2 then (some true) else (some (a0 == 4)))
set_option maxHeartbeats 8000000 in
set_option maxRecDepth 100000 in
theorem miradorref01_Size.calls (a0 : Int) (r : Bool) (w : World) (h : miradorref01_Size.f a0 = some r) :
  Calls Try.prog 87 #[.int .i64 a0] w fun e w' => e = .returned (.bool r) ∧ Drawn0 w w' := by
 have H : (if a0 = 1 then (some true) else (if a0 = 2 then (some true) else (some (a0 == 4)))) = some r := h
 clear h
 by_cases c2 : a0 = 1
 ·rw [if_pos c2] at H
  have c2b0 : (a0 == 1) = true := beq_iff_eq.mpr c2
  have c2b1 : (a0 != 1) = false := bne_eq_false_iff_eq.mpr c2
  clear c2
  obtain rfl := Option.some.inj H
  go_enter Try.func87, Try.ntmps87
  go_wp2
  go_ret
  exact ⟨by first | rfl | (simp; done) | (simp [*]; done), by repeat (first | exact Drawn0.refl _ | apply Drawn0.step)⟩
 ·rw [if_neg c2] at H
  have c2b0 : (a0 == 1) = false := beq_eq_false_iff_ne.mpr c2
  have c2b1 : (a0 != 1) = true := bne_iff_ne.mpr c2
  by_cases c3 : a0 = 2
  ·rw [if_pos c3] at H
   have c3b0 : (a0 == 2) = true := beq_iff_eq.mpr c3
   have c3b1 : (a0 != 2) = false := bne_eq_false_iff_eq.mpr c3
   clear c3
   obtain rfl := Option.some.inj H
   go_enter Try.func87, Try.ntmps87
   go_wp2
   go_ret
   exact ⟨by first | rfl | (simp; done) | (simp [*]; done), by repeat (first | exact Drawn0.refl _ | apply Drawn0.step)⟩
  ·rw [if_neg c3] at H
   have c3b0 : (a0 == 2) = false := beq_eq_false_iff_ne.mpr c3
   have c3b1 : (a0 != 2) = true := bne_iff_ne.mpr c3
   obtain rfl := Option.some.inj H
   go_enter Try.func87, Try.ntmps87
   go_wp2
   go_ret
   exact ⟨by first | rfl | (simp; done) | (simp [*]; done), by repeat (first | exact Drawn0.refl _ | apply Drawn0.step)⟩

/-! ### miradorref01_most: function 91 -/
def miradorref01_most.f (a0 : Int) : Option (Int) := if a0 = 1 then (some 255) else (if a0 = 2 then (some 65535) else (some 4294967295))
set_option maxHeartbeats 8000000 in
set_option maxRecDepth 100000 in
theorem miradorref01_most.calls (a0 : Int) (r : Int) (w : World) (h : miradorref01_most.f a0 = some r) :
  Calls Try.prog 91 #[.int .i64 a0] w fun e w' => e = .returned (.int .i64 r) ∧ Drawn0 w w' := by
 have H : (if a0 = 1 then (some 255) else (if a0 = 2 then (some 65535) else (some 4294967295))) = some r := h
 clear h
 by_cases c2 : a0 = 1
 ·rw [if_pos c2] at H
  have c2b0 : (a0 == 1) = true := beq_iff_eq.mpr c2
  have c2b1 : (a0 != 1) = false := bne_eq_false_iff_eq.mpr c2
  clear c2
  obtain rfl := Option.some.inj H
  go_enter Try.func91, Try.ntmps91
  go_wp2
  go_ret
  exact ⟨by first | rfl | (simp; done) | (simp [*]; done), by repeat (first | exact Drawn0.refl _ | apply Drawn0.step)⟩
 ·rw [if_neg c2] at H
  have c2b0 : (a0 == 1) = false := beq_eq_false_iff_ne.mpr c2
  have c2b1 : (a0 != 1) = true := bne_iff_ne.mpr c2
  by_cases c3 : a0 = 2
  ·rw [if_pos c3] at H
   have c3b0 : (a0 == 2) = true := beq_iff_eq.mpr c3
   have c3b1 : (a0 != 2) = false := bne_eq_false_iff_eq.mpr c3
   clear c3
   obtain rfl := Option.some.inj H
   go_enter Try.func91, Try.ntmps91
   go_wp2
   go_ret
   exact ⟨by first | rfl | (simp; done) | (simp [*]; done), by repeat (first | exact Drawn0.refl _ | apply Drawn0.step)⟩
  ·rw [if_neg c3] at H
   have c3b0 : (a0 == 2) = false := beq_eq_false_iff_ne.mpr c3
   have c3b1 : (a0 != 2) = true := bne_iff_ne.mpr c3
   obtain rfl := Option.some.inj H
   go_enter Try.func91, Try.ntmps91
   go_wp2
   go_ret
   exact ⟨by first | rfl | (simp; done) | (simp [*]; done), by repeat (first | exact Drawn0.refl _ | apply Drawn0.step)⟩

end Go.Proofs.Ytpackckoblpbfaa.X
