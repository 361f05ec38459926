/- What each Go function that these laws use answers: as a Lean function, with the proof that the machine's call comes to it. Written by a program of this session (xprint.py). -/
import Derived.Test.YtpackckoblpbfaaXx0
import Derived.Test.YtpackckoblpbfaaXx23
import Derived.Test.YtpackckoblpbfaaXx26
import Derived.Test.YtpackckoblpbfaaXx28
import Derived.Test.YtpackckoblpbfaaXx29
namespace Go.Proofs.Ytpackckoblpbfaa.X
open Go.RowKit Go.Proofs.YtpackckoblpbfaaW.PrintWords Go.Proofs.YtpackckoblpbfaaW.PrintLast Go.Proofs.YtpackckoblpbfaaW.PrintMore
attribute [local go_sem] max2_int min2_int max_two min_two max_three min_three max_four min_four   -- for this text's walks alone
set_option linter.unusedVariables false
set_option linter.unusedSimpArgs false

/-! ### miradorref23_Bytes: function 12 -/
def miradorref23_Bytes.f (k : Nat) (a0_0 : Int) (a0_1 : Int) (a0_2 : Int) (a0_3 : Int) (a0_4 : Bool) (a0_5 : Bool) (a0_6 : Int) (a0_7 : Int) (a0_8 : Int) (a0_9 : Int) (a0_10 : Int) (a0_11 : Int) (a0_12 : ByteArray) : Option (ByteArray × Int) := (miradorref13_Valid.f k a0_2 a0_3 a0_4 a0_5 a0_6 a0_7 a0_8 a0_9 a0_10 a0_11).bind fun t267 => (if t267 = true then (if a0_0 = 0 then ((miradorref22_Writer_Int.f k (⟨#[]⟩ : ByteArray) false 2 a0_0).bind fun bt269 => ((miradorref22_Writer_Int.f k bt269.1 bt269.2 2 a0_1).bind fun bt271 => ((miradorref13_Bytes.f k a0_2 a0_3 a0_4 a0_5 a0_6 a0_7 a0_8 a0_9 a0_10 a0_11).bind fun t273 => (if bt271.1.size + t273.size ≤ 9223372036854775807 then ((miradorref23_long.f k (bt271.1 ++ t273) bt271.2 a0_12).bind fun bt274 => ((miradorref23_done.f bt274.1 bt274.2).bind fun bt276 => (some (bt276.1, bt276.2.1)))) else (none))))) else ((miradorref22_Writer_Int.f k (⟨#[]⟩ : ByteArray) (a0_1 != 0) 2 a0_0).bind fun bt281 => ((miradorref22_Writer_Int.f k bt281.1 bt281.2 2 a0_1).bind fun bt283 => ((miradorref13_Bytes.f k a0_2 a0_3 a0_4 a0_5 a0_6 a0_7 a0_8 a0_9 a0_10 a0_11).bind fun t285 => (if bt283.1.size + t285.size ≤ 9223372036854775807 then ((miradorref23_long.f k (bt283.1 ++ t285) bt283.2 a0_12).bind fun bt286 => ((miradorref23_done.f bt286.1 bt286.2).bind fun bt288 => (some (bt288.1, bt288.2.1)))) else (none)))))) else (some ((⟨#[]⟩ : ByteArray), 130)))
theorem miradorref23_Bytes.mono : ∀ a0 a1 a2 a3 a4 a5 a6 a7 a8 a9 a10 a11 a12 k, LeO (miradorref23_Bytes.f k a0 a1 a2 a3 a4 a5 a6 a7 a8 a9 a10 a11 a12) (miradorref23_Bytes.f (k + 1) a0 a1 a2 a3 a4 a5 a6 a7 a8 a9 a10 a11 a12) := by
 intro a0 a1 a2 a3 a4 a5 a6 a7 a8 a9 a10 a11 a12 k
 unfold miradorref23_Bytes.f
 repeat' first
   | (with_reducible exact miradorref13_Bytes.mono _ _ _ _ _ _ _ _ _ _ _)
   | (with_reducible exact miradorref13_Valid.mono _ _ _ _ _ _ _ _ _ _ _)
   | (with_reducible exact miradorref22_Writer_Int.mono _ _ _ _ _)
   | (with_reducible exact miradorref23_long.mono _ _ _ _)
   | (with_reducible exact LeO.refl _)
   | (with_reducible exact LeO.none _)
   | (with_reducible refine LeO.ite ?_ ?_)
   | (with_reducible refine LeO.bind ?_ (fun _ => ?_))
   | exact miradorref13_Bytes.mono _ _ _ _ _ _ _ _ _ _ _
   | exact miradorref13_Valid.mono _ _ _ _ _ _ _ _ _ _ _
   | exact miradorref22_Writer_Int.mono _ _ _ _ _
   | exact miradorref23_long.mono _ _ _ _
   | exact LeO.none _
   | refine LeO.ite ?_ ?_
   | refine LeO.bind ?_ (fun _ => ?_)
def miradorref23_Bytes.T6 : Bool × List (List Nat × List Nat) := (true, [([], []), ([], []), ([1], [1]), ([2], [2]), ([3], [3]), ([], []), ([5], [5]), ([6], [6]), ([4, 7], [4, 7]), ([0, 0, 1, 2, 3, 4, 5, 6, 7, 8], [0]), ([9, 0, 1, 2, 3, 4, 5, 6, 7, 8], [9]), ([10, 8, 7, 0, 1, 2, 3, 4, 5, 6, 7, 8], [8, 10])])
def miradorref23_Bytes.B6 : List Nat := [0, 0, 2, 6, 14, 0, 32, 96, 254, 511, 1023, 2047]
theorem miradorref23_Bytes.tab6 : rtab .any (opsOf Try.f12 6) = miradorref23_Bytes.T6 := by kernel_rfl
theorem miradorref23_Bytes.bits6 : waitsOk miradorref23_Bytes.T6.2 miradorref23_Bytes.B6 = true := by kernel_rfl
set_option maxHeartbeats 8000000 in
set_option maxRecDepth 100000 in
theorem miradorref23_Bytes.calls (k : Nat) (a0_0 : Int) (a0_1 : Int) (a0_2 : Int) (a0_3 : Int) (a0_4 : Bool) (a0_5 : Bool) (a0_6 : Int) (a0_7 : Int) (a0_8 : Int) (a0_9 : Int) (a0_10 : Int) (a0_11 : Int) (a0_12 : ByteArray) (r1 : ByteArray) (r2 : Int) (w : World) (h : miradorref23_Bytes.f k a0_0 a0_1 a0_2 a0_3 a0_4 a0_5 a0_6 a0_7 a0_8 a0_9 a0_10 a0_11 a0_12 = some (r1, r2)) :
  Calls Try.prog 12 #[.agg #[.int .i64 a0_0, .int .i64 a0_1, .int .i64 a0_2, .int .i64 a0_3, .bool a0_4, .bool a0_5, .int .i64 a0_6, .int .i64 a0_7, .int .i64 a0_8, .int .i64 a0_9, .int .i64 a0_10, .int .i64 a0_11, .string a0_12]] w fun e w' => e = .returned (.tuple #[.string r1, .int .i64 r2]) ∧ Below w.heap.size w w' := by
 have hu42 := Try.underlying42
 have hu24 := Try.underlying24
 have hu82 := Try.underlying82
 have HB := Aside0.mk (Below.refl w.heap.size w)
 have H : ((miradorref13_Valid.f k a0_2 a0_3 a0_4 a0_5 a0_6 a0_7 a0_8 a0_9 a0_10 a0_11).bind fun t267 => (if t267 = true then (if a0_0 = 0 then ((miradorref22_Writer_Int.f k (⟨#[]⟩ : ByteArray) false 2 a0_0).bind fun bt269 => ((miradorref22_Writer_Int.f k bt269.1 bt269.2 2 a0_1).bind fun bt271 => ((miradorref13_Bytes.f k a0_2 a0_3 a0_4 a0_5 a0_6 a0_7 a0_8 a0_9 a0_10 a0_11).bind fun t273 => (if bt271.1.size + t273.size ≤ 9223372036854775807 then ((miradorref23_long.f k (bt271.1 ++ t273) bt271.2 a0_12).bind fun bt274 => ((miradorref23_done.f bt274.1 bt274.2).bind fun bt276 => (some (bt276.1, bt276.2.1)))) else (none))))) else ((miradorref22_Writer_Int.f k (⟨#[]⟩ : ByteArray) (a0_1 != 0) 2 a0_0).bind fun bt281 => ((miradorref22_Writer_Int.f k bt281.1 bt281.2 2 a0_1).bind fun bt283 => ((miradorref13_Bytes.f k a0_2 a0_3 a0_4 a0_5 a0_6 a0_7 a0_8 a0_9 a0_10 a0_11).bind fun t285 => (if bt283.1.size + t285.size ≤ 9223372036854775807 then ((miradorref23_long.f k (bt283.1 ++ t285) bt283.2 a0_12).bind fun bt286 => ((miradorref23_done.f bt286.1 bt286.2).bind fun bt288 => (some (bt288.1, bt288.2.1)))) else (none)))))) else (some ((⟨#[]⟩ : ByteArray), 130)))) = some (r1, r2) := h
 clear h
 replace H := Option.bind_eq_some_iff.mp H
 obtain ⟨t267, A20, H⟩ := H
 replace H : (if t267 = true then (if a0_0 = 0 then ((miradorref22_Writer_Int.f k (⟨#[]⟩ : ByteArray) false 2 a0_0).bind fun bt269 => ((miradorref22_Writer_Int.f k bt269.1 bt269.2 2 a0_1).bind fun bt271 => ((miradorref13_Bytes.f k a0_2 a0_3 a0_4 a0_5 a0_6 a0_7 a0_8 a0_9 a0_10 a0_11).bind fun t273 => (if bt271.1.size + t273.size ≤ 9223372036854775807 then ((miradorref23_long.f k (bt271.1 ++ t273) bt271.2 a0_12).bind fun bt274 => ((miradorref23_done.f bt274.1 bt274.2).bind fun bt276 => (some (bt276.1, bt276.2.1)))) else (none))))) else ((miradorref22_Writer_Int.f k (⟨#[]⟩ : ByteArray) (a0_1 != 0) 2 a0_0).bind fun bt281 => ((miradorref22_Writer_Int.f k bt281.1 bt281.2 2 a0_1).bind fun bt283 => ((miradorref13_Bytes.f k a0_2 a0_3 a0_4 a0_5 a0_6 a0_7 a0_8 a0_9 a0_10 a0_11).bind fun t285 => (if bt283.1.size + t285.size ≤ 9223372036854775807 then ((miradorref23_long.f k (bt283.1 ++ t285) bt283.2 a0_12).bind fun bt286 => ((miradorref23_done.f bt286.1 bt286.2).bind fun bt288 => (some (bt288.1, bt288.2.1)))) else (none)))))) else (some ((⟨#[]⟩ : ByteArray), 130))) = some (r1, r2) := H
 have A2 := Aside0.mk A20
 clear A20
 by_cases c3 : t267 = true
 ·subst c3
  have H1 : (if a0_0 = 0 then ((miradorref22_Writer_Int.f k (⟨#[]⟩ : ByteArray) false 2 a0_0).bind fun bt269 => ((miradorref22_Writer_Int.f k bt269.1 bt269.2 2 a0_1).bind fun bt271 => ((miradorref13_Bytes.f k a0_2 a0_3 a0_4 a0_5 a0_6 a0_7 a0_8 a0_9 a0_10 a0_11).bind fun t273 => (if bt271.1.size + t273.size ≤ 9223372036854775807 then ((miradorref23_long.f k (bt271.1 ++ t273) bt271.2 a0_12).bind fun bt274 => ((miradorref23_done.f bt274.1 bt274.2).bind fun bt276 => (some (bt276.1, bt276.2.1)))) else (none))))) else ((miradorref22_Writer_Int.f k (⟨#[]⟩ : ByteArray) (a0_1 != 0) 2 a0_0).bind fun bt281 => ((miradorref22_Writer_Int.f k bt281.1 bt281.2 2 a0_1).bind fun bt283 => ((miradorref13_Bytes.f k a0_2 a0_3 a0_4 a0_5 a0_6 a0_7 a0_8 a0_9 a0_10 a0_11).bind fun t285 => (if bt283.1.size + t285.size ≤ 9223372036854775807 then ((miradorref23_long.f k (bt283.1 ++ t285) bt283.2 a0_12).bind fun bt286 => ((miradorref23_done.f bt286.1 bt286.2).bind fun bt288 => (some (bt288.1, bt288.2.1)))) else (none)))))) = some (r1, r2) := by rw [if_pos rfl] at H; exact H
  clear H
  have H := H1
  clear H1
  by_cases c4 : a0_0 = 0
  ·rw [if_pos c4] at H
   have c4b0 : (a0_0 == 0) = true := beq_iff_eq.mpr c4
   have c4b1 : (a0_0 != 0) = false := bne_eq_false_iff_eq.mpr c4
   clear c4
   replace H := Option.bind_eq_some_iff.mp H
   obtain ⟨⟨t269, t270⟩, A50, H⟩ := H
   replace H : ((miradorref22_Writer_Int.f k t269 t270 2 a0_1).bind fun bt271 => ((miradorref13_Bytes.f k a0_2 a0_3 a0_4 a0_5 a0_6 a0_7 a0_8 a0_9 a0_10 a0_11).bind fun t273 => (if bt271.1.size + t273.size ≤ 9223372036854775807 then ((miradorref23_long.f k (bt271.1 ++ t273) bt271.2 a0_12).bind fun bt274 => ((miradorref23_done.f bt274.1 bt274.2).bind fun bt276 => (some (bt276.1, bt276.2.1)))) else (none)))) = some (r1, r2) := H
   have A5 := Aside0.mk A50
   clear A50
   replace H := Option.bind_eq_some_iff.mp H
   obtain ⟨⟨t271, t272⟩, A60, H⟩ := H
   replace H : ((miradorref13_Bytes.f k a0_2 a0_3 a0_4 a0_5 a0_6 a0_7 a0_8 a0_9 a0_10 a0_11).bind fun t273 => (if t271.size + t273.size ≤ 9223372036854775807 then ((miradorref23_long.f k (t271 ++ t273) t272 a0_12).bind fun bt274 => ((miradorref23_done.f bt274.1 bt274.2).bind fun bt276 => (some (bt276.1, bt276.2.1)))) else (none))) = some (r1, r2) := H
   have A6 := Aside0.mk A60
   clear A60
   replace H := Option.bind_eq_some_iff.mp H
   obtain ⟨t273, A70, H⟩ := H
   replace H : (if t271.size + t273.size ≤ 9223372036854775807 then ((miradorref23_long.f k (t271 ++ t273) t272 a0_12).bind fun bt274 => ((miradorref23_done.f bt274.1 bt274.2).bind fun bt276 => (some (bt276.1, bt276.2.1)))) else (none)) = some (r1, r2) := H
   have A7 := Aside0.mk A70
   clear A70
   by_cases c8 : t271.size + t273.size ≤ 9223372036854775807
   ·rw [if_pos c8] at H
    have c8b0 := eq_true c8
    have c8b1 : decide (t271.size + t273.size ≤ 9223372036854775807) = true := decide_eq_true c8
    try have c8b2 : (9223372036854775807 < t271.size + t273.size) = False := eq_false (Nat.not_lt.2 c8)
    replace H := Option.bind_eq_some_iff.mp H
    obtain ⟨⟨t274, t275⟩, A90, H⟩ := H
    replace H : ((miradorref23_done.f t274 t275).bind fun bt276 => (some (bt276.1, bt276.2.1))) = some (r1, r2) := H
    have A9 := Aside0.mk A90
    clear A90
    replace H := Option.bind_eq_some_iff.mp H
    obtain ⟨⟨t276, t277, t278, t279⟩, A100, H⟩ := H
    replace H : (some (t276, t277)) = some (r1, r2) := H
    have A10 := Aside0.mk A100
    clear A100
    simp only [Option.some.injEq, Prod.mk.injEq] at H
    obtain ⟨rfl, rfl⟩ := H
    go_enter Try.func12, Try.ntmps12
    try go_wp2_with (first | ((with_reducible refine gate_dst (N := 1) rfl ?_); refine box_event ?hg (N := 1) ?hd (cs := #[.int .i64 a0_0, .int .i64 a0_1, .int .i64 a0_2, .int .i64 a0_3, .bool a0_4, .bool a0_5, .int .i64 a0_6, .int .i64 a0_7, .int .i64 a0_8, .int .i64 a0_9, .int .i64 a0_10, .int .i64 a0_11, .string a0_12]) (t := 42) ?hr ?_; (case hd => rfl); (case hg => rfl); (case hr => first | (go_simp; done) | (go_simp; rfl)); intro gb266 hg w11 hbox hb; have n0_ := Aside0.mk (below_step (by repeat (first | (with_reducible first | exact HB.out | apply below_alloc | apply pw_below_drewN | apply below_drew1) | exact HB.out)) hb); have n1_ := Aside0.mk (hbox); have n2_ := Aside0.mk ((by rw [hg]; exact (below_size (by repeat (first | (with_reducible first | exact HB.out | apply below_alloc | apply pw_below_drewN | apply below_drew1) | exact HB.out))) : w.heap.size ≤ gb266)); have n3_ := Aside0.mk ((by rw [hg]; exact (below_size (by repeat (first | (with_reducible first | exact HB.out | apply below_alloc | apply pw_below_drewN | apply below_drew1) | exact HB.out))) : w.heap.size ≤ gb266)); clear HB; have HB := n0_; have BK266 := n1_; have GW266 := n2_; have GE266 := n3_; clear n0_ n1_ n2_ n3_; clear hb hbox hg; have hcz12_0 : w11.cell? ⟨gb266, 0, none⟩ = some (.int .i64 a0_0) := (blk_cell BK266.out 0).trans rfl; have hcz12_1 : w11.cell? ⟨gb266, 1, none⟩ = some (.int .i64 a0_1) := (blk_cell BK266.out 1).trans rfl; have hcz12_2 : w11.cell? ⟨gb266, 2, none⟩ = some (.int .i64 a0_2) := (blk_cell BK266.out 2).trans rfl; have hcz12_3 : w11.cell? ⟨gb266, 3, none⟩ = some (.int .i64 a0_3) := (blk_cell BK266.out 3).trans rfl; have hcz12_4 : w11.cell? ⟨gb266, 4, none⟩ = some (.bool a0_4) := (blk_cell BK266.out 4).trans rfl; have hcz12_5 : w11.cell? ⟨gb266, 5, none⟩ = some (.bool a0_5) := (blk_cell BK266.out 5).trans rfl; have hcz12_6 : w11.cell? ⟨gb266, 6, none⟩ = some (.int .i64 a0_6) := (blk_cell BK266.out 6).trans rfl; have hcz12_7 : w11.cell? ⟨gb266, 7, none⟩ = some (.int .i64 a0_7) := (blk_cell BK266.out 7).trans rfl; have hcz12_8 : w11.cell? ⟨gb266, 8, none⟩ = some (.int .i64 a0_8) := (blk_cell BK266.out 8).trans rfl; have hcz12_9 : w11.cell? ⟨gb266, 9, none⟩ = some (.int .i64 a0_9) := (blk_cell BK266.out 9).trans rfl; have hcz12_10 : w11.cell? ⟨gb266, 10, none⟩ = some (.int .i64 a0_10) := (blk_cell BK266.out 10).trans rfl; have hcz12_11 : w11.cell? ⟨gb266, 11, none⟩ = some (.int .i64 a0_11) := (blk_cell BK266.out 11).trans rfl; have hcz12_12 : w11.cell? ⟨gb266, 12, none⟩ = some (.string a0_12) := (blk_cell BK266.out 12).trans rfl; have hfz12_0 := blk_frozen BK266.out 0; have hfz12_1 := blk_frozen BK266.out 1; have hfz12_2 := blk_frozen BK266.out 2; have hfz12_3 := blk_frozen BK266.out 3; have hfz12_4 := blk_frozen BK266.out 4; have hfz12_5 := blk_frozen BK266.out 5; have hfz12_6 := blk_frozen BK266.out 6; have hfz12_7 := blk_frozen BK266.out 7; have hfz12_8 := blk_frozen BK266.out 8; have hfz12_9 := blk_frozen BK266.out 9; have hfz12_10 := blk_frozen BK266.out 10; have hfz12_11 := blk_frozen BK266.out 11; have hfz12_12 := blk_frozen BK266.out 12) | ((with_reducible refine gate_callee (f := 42) rfl ?_); refine goesL_ (some 7) rfl rfl Try.func42 (by kernel_rfl) rfl #[.agg #[.int .i64 a0_2, .int .i64 a0_3, .bool a0_4, .bool a0_5, .int .i64 a0_6, .int .i64 a0_7, .int .i64 a0_8, .int .i64 a0_9, .int .i64 a0_10, .int .i64 a0_11]] rfl (by (try simp only [List.map_toArray, List.map_cons, List.map_nil]); first | done | rfl | (simp only [List.length_drop, List.length_take]; rfl)) ?_; (with_reducible refine (miradorref13_Valid.calls k a0_2 a0_3 a0_4 a0_5 a0_6 a0_7 a0_8 a0_9 a0_10 a0_11 true _ A2.out).mono ?_); rintro e w13 ⟨rfl, hb⟩; refine ⟨_, rfl, ?_⟩; have n0_ := Aside0.mk (blk_below (g := gb266) (o := .cells #[.int .i64 a0_0, .int .i64 a0_1, .int .i64 a0_2, .int .i64 a0_3, .bool a0_4, .bool a0_5, .int .i64 a0_6, .int .i64 a0_7, .int .i64 a0_8, .int .i64 a0_9, .int .i64 a0_10, .int .i64 a0_11, .string a0_12] 42 (0, 0)) (by (with_reducible repeat (first | refine blk_drewN ?_ _ | refine blk_drew ?_ | refine blk_alloc ?_ _)); exact BK266.out) hb); have n1_ := Aside0.mk (below_step (by repeat (first | (with_reducible first | exact HB.out | apply below_alloc | apply pw_below_drewN | apply below_drew1 | refine below_set ?_ GE266.out) | exact HB.out)) hb); clear BK266; clear HB; have BK266 := n0_; have HB := n1_; clear n0_ n1_; (try clear hb); (try clear hb2); (try clear hk); (try clear hi); have hcz14_0 : w13.cell? ⟨gb266, 0, none⟩ = some (.int .i64 a0_0) := (blk_cell BK266.out 0).trans rfl; have hcz14_1 : w13.cell? ⟨gb266, 1, none⟩ = some (.int .i64 a0_1) := (blk_cell BK266.out 1).trans rfl; have hcz14_2 : w13.cell? ⟨gb266, 2, none⟩ = some (.int .i64 a0_2) := (blk_cell BK266.out 2).trans rfl; have hcz14_3 : w13.cell? ⟨gb266, 3, none⟩ = some (.int .i64 a0_3) := (blk_cell BK266.out 3).trans rfl; have hcz14_4 : w13.cell? ⟨gb266, 4, none⟩ = some (.bool a0_4) := (blk_cell BK266.out 4).trans rfl; have hcz14_5 : w13.cell? ⟨gb266, 5, none⟩ = some (.bool a0_5) := (blk_cell BK266.out 5).trans rfl; have hcz14_6 : w13.cell? ⟨gb266, 6, none⟩ = some (.int .i64 a0_6) := (blk_cell BK266.out 6).trans rfl; have hcz14_7 : w13.cell? ⟨gb266, 7, none⟩ = some (.int .i64 a0_7) := (blk_cell BK266.out 7).trans rfl; have hcz14_8 : w13.cell? ⟨gb266, 8, none⟩ = some (.int .i64 a0_8) := (blk_cell BK266.out 8).trans rfl; have hcz14_9 : w13.cell? ⟨gb266, 9, none⟩ = some (.int .i64 a0_9) := (blk_cell BK266.out 9).trans rfl; have hcz14_10 : w13.cell? ⟨gb266, 10, none⟩ = some (.int .i64 a0_10) := (blk_cell BK266.out 10).trans rfl; have hcz14_11 : w13.cell? ⟨gb266, 11, none⟩ = some (.int .i64 a0_11) := (blk_cell BK266.out 11).trans rfl; have hcz14_12 : w13.cell? ⟨gb266, 12, none⟩ = some (.string a0_12) := (blk_cell BK266.out 12).trans rfl; have hfz14_0 := blk_frozen BK266.out 0; have hfz14_1 := blk_frozen BK266.out 1; have hfz14_2 := blk_frozen BK266.out 2; have hfz14_3 := blk_frozen BK266.out 3; have hfz14_4 := blk_frozen BK266.out 4; have hfz14_5 := blk_frozen BK266.out 5; have hfz14_6 := blk_frozen BK266.out 6; have hfz14_7 := blk_frozen BK266.out 7; have hfz14_8 := blk_frozen BK266.out 8; have hfz14_9 := blk_frozen BK266.out 9; have hfz14_10 := blk_frozen BK266.out 10; have hfz14_11 := blk_frozen BK266.out 11; have hfz14_12 := blk_frozen BK266.out 12) | ((with_reducible refine gate_dst (N := 18) rfl ?_); refine box_event ?hg (N := 18) ?hd (cs := #[.string (⟨#[]⟩ : ByteArray), .bool false]) (t := 82) ?hr ?_; (case hd => rfl); (case hg => rfl); (case hr => first | (go_simp; done) | (go_simp; rfl)); intro gb268 hg w15 hbox hb; have n0_ := Aside0.mk (blk_below (g := gb266) (o := .cells #[.int .i64 a0_0, .int .i64 a0_1, .int .i64 a0_2, .int .i64 a0_3, .bool a0_4, .bool a0_5, .int .i64 a0_6, .int .i64 a0_7, .int .i64 a0_8, .int .i64 a0_9, .int .i64 a0_10, .int .i64 a0_11, .string a0_12] 42 (0, 0)) (by (with_reducible repeat (first | refine blk_drewN ?_ _ | refine blk_drew ?_ | refine blk_alloc ?_ _)); exact BK266.out) hb); have n1_ := Aside0.mk (below_step (by repeat (first | (with_reducible first | exact HB.out | apply below_alloc | apply pw_below_drewN | apply below_drew1 | refine below_set ?_ GE266.out) | exact HB.out)) hb); have n2_ := Aside0.mk ((by rw [hg]; exact (below_size (by repeat (first | (with_reducible first | exact HB.out | apply below_alloc | apply pw_below_drewN | apply below_drew1 | refine below_set ?_ GE266.out) | exact HB.out))) : w.heap.size ≤ gb268)); have n3_ := Aside0.mk ((by rw [hg]; exact (below_size (by repeat (first | (with_reducible first | exact HB.out | apply below_alloc | apply pw_below_drewN | apply below_drew1 | refine below_set ?_ GE266.out) | exact HB.out))) : w.heap.size ≤ gb268)); have n4_ := Aside0.mk ((by rw [hg]; exact Nat.ne_of_lt (blk_lt (g := gb266) (o := .cells #[.int .i64 a0_0, .int .i64 a0_1, .int .i64 a0_2, .int .i64 a0_3, .bool a0_4, .bool a0_5, .int .i64 a0_6, .int .i64 a0_7, .int .i64 a0_8, .int .i64 a0_9, .int .i64 a0_10, .int .i64 a0_11, .string a0_12] 42 (0, 0)) (by (with_reducible repeat (first | refine blk_drewN ?_ _ | refine blk_drew ?_ | refine blk_alloc ?_ _)); exact BK266.out)) : gb266 ≠ gb268)); have n5_ := Aside0.mk ((by rw [hg]; exact Nat.ne_of_gt (blk_lt (g := gb266) (o := .cells #[.int .i64 a0_0, .int .i64 a0_1, .int .i64 a0_2, .int .i64 a0_3, .bool a0_4, .bool a0_5, .int .i64 a0_6, .int .i64 a0_7, .int .i64 a0_8, .int .i64 a0_9, .int .i64 a0_10, .int .i64 a0_11, .string a0_12] 42 (0, 0)) (by (with_reducible repeat (first | refine blk_drewN ?_ _ | refine blk_drew ?_ | refine blk_alloc ?_ _)); exact BK266.out)) : gb268 ≠ gb266)); have n6_ := Aside0.mk (show IsS82 w w15 gb268 (⟨#[]⟩ : ByteArray) false from ⟨hbox, (by rw [hg]; exact (below_size (by repeat (first | (with_reducible first | exact HB.out | apply below_alloc | apply pw_below_drewN | apply below_drew1 | refine below_set ?_ GE266.out) | exact HB.out))) : w.heap.size ≤ gb268)⟩); clear BK266; clear HB; have BK266 := n0_; have HB := n1_; have GW268 := n2_; have GE268 := n3_; have NB266_268 := n4_; have NB268_266 := n5_; have HI268 := n6_; clear n0_ n1_ n2_ n3_ n4_ n5_ n6_; clear hb hbox hg; have hnb16 := NB266_268.out; have hnc16 := NB268_266.out; have hcz17_0 : w15.cell? ⟨gb266, 0, none⟩ = some (.int .i64 a0_0) := (blk_cell BK266.out 0).trans rfl; have hcz17_1 : w15.cell? ⟨gb266, 1, none⟩ = some (.int .i64 a0_1) := (blk_cell BK266.out 1).trans rfl; have hcz17_2 : w15.cell? ⟨gb266, 2, none⟩ = some (.int .i64 a0_2) := (blk_cell BK266.out 2).trans rfl; have hcz17_3 : w15.cell? ⟨gb266, 3, none⟩ = some (.int .i64 a0_3) := (blk_cell BK266.out 3).trans rfl; have hcz17_4 : w15.cell? ⟨gb266, 4, none⟩ = some (.bool a0_4) := (blk_cell BK266.out 4).trans rfl; have hcz17_5 : w15.cell? ⟨gb266, 5, none⟩ = some (.bool a0_5) := (blk_cell BK266.out 5).trans rfl; have hcz17_6 : w15.cell? ⟨gb266, 6, none⟩ = some (.int .i64 a0_6) := (blk_cell BK266.out 6).trans rfl; have hcz17_7 : w15.cell? ⟨gb266, 7, none⟩ = some (.int .i64 a0_7) := (blk_cell BK266.out 7).trans rfl; have hcz17_8 : w15.cell? ⟨gb266, 8, none⟩ = some (.int .i64 a0_8) := (blk_cell BK266.out 8).trans rfl; have hcz17_9 : w15.cell? ⟨gb266, 9, none⟩ = some (.int .i64 a0_9) := (blk_cell BK266.out 9).trans rfl; have hcz17_10 : w15.cell? ⟨gb266, 10, none⟩ = some (.int .i64 a0_10) := (blk_cell BK266.out 10).trans rfl; have hcz17_11 : w15.cell? ⟨gb266, 11, none⟩ = some (.int .i64 a0_11) := (blk_cell BK266.out 11).trans rfl; have hcz17_12 : w15.cell? ⟨gb266, 12, none⟩ = some (.string a0_12) := (blk_cell BK266.out 12).trans rfl; have hfz17_0 := blk_frozen BK266.out 0; have hfz17_1 := blk_frozen BK266.out 1; have hfz17_2 := blk_frozen BK266.out 2; have hfz17_3 := blk_frozen BK266.out 3; have hfz17_4 := blk_frozen BK266.out 4; have hfz17_5 := blk_frozen BK266.out 5; have hfz17_6 := blk_frozen BK266.out 6; have hfz17_7 := blk_frozen BK266.out 7; have hfz17_8 := blk_frozen BK266.out 8; have hfz17_9 := blk_frozen BK266.out 9; have hfz17_10 := blk_frozen BK266.out 10; have hfz17_11 := blk_frozen BK266.out 11; have hfz17_12 := blk_frozen BK266.out 12) | ((with_reducible refine gate_callee (f := 36) rfl ?_); refine goesL_ (some 22) rfl rfl Try.func36 (by kernel_rfl) rfl #[.pointer (some ⟨gb268, 0, none⟩), .int .i64 2, .int .i64 a0_0] rfl (by (try simp only [List.map_toArray, List.map_cons, List.map_nil]); first | done | rfl | (simp only [List.length_drop, List.length_take]; rfl)) ?_; (with_reducible refine (miradorref22_Writer_Int.calls k gb268 (⟨#[]⟩ : ByteArray) false 2 a0_0 t269 t270 w _ ?side1 ?side2 A5.out).mono ?_); (case side1 => repeat (first | (with_reducible first | exact HI268.out | apply IsS82.alloc | apply IsS82.drewN | apply IsS82.drew | apply IsS82.set_0 | apply IsS82.set_1 | refine IsS82.far ?_ NB268_266.out _) | exact HI268.out)); (case side2 => repeat (first | (with_reducible first | exact HB.out | apply below_alloc | apply pw_below_drewN | apply below_drew1 | refine below_set ?_ (IsS82.ge HI268.out) | refine below_set ?_ GE266.out) | exact HB.out)); rintro e w18 ⟨rfl, hi, hb, hk⟩; refine ⟨_, rfl, ?_⟩; have n0_ := Aside0.mk (KeepBut.blk hk (g' := gb266) (o := .cells #[.int .i64 a0_0, .int .i64 a0_1, .int .i64 a0_2, .int .i64 a0_3, .bool a0_4, .bool a0_5, .int .i64 a0_6, .int .i64 a0_7, .int .i64 a0_8, .int .i64 a0_9, .int .i64 a0_10, .int .i64 a0_11, .string a0_12] 42 (0, 0)) (by (with_reducible repeat (first | refine blk_drewN ?_ _ | refine blk_drew ?_ | refine blk_alloc ?_ _)); exact BK266.out) NB266_268.out (by simp)); have n1_ := Aside0.mk (hb); have n2_ := Aside0.mk (hi); clear BK266; clear HB; clear HI268; have BK266 := n0_; have HB := n1_; have HI268 := n2_; clear n0_ n1_ n2_; (try clear hb); (try clear hb2); (try clear hk); (try clear hi); have hcz19_0 : w18.cell? ⟨gb266, 0, none⟩ = some (.int .i64 a0_0) := (blk_cell BK266.out 0).trans rfl; have hcz19_1 : w18.cell? ⟨gb266, 1, none⟩ = some (.int .i64 a0_1) := (blk_cell BK266.out 1).trans rfl; have hcz19_2 : w18.cell? ⟨gb266, 2, none⟩ = some (.int .i64 a0_2) := (blk_cell BK266.out 2).trans rfl; have hcz19_3 : w18.cell? ⟨gb266, 3, none⟩ = some (.int .i64 a0_3) := (blk_cell BK266.out 3).trans rfl; have hcz19_4 : w18.cell? ⟨gb266, 4, none⟩ = some (.bool a0_4) := (blk_cell BK266.out 4).trans rfl; have hcz19_5 : w18.cell? ⟨gb266, 5, none⟩ = some (.bool a0_5) := (blk_cell BK266.out 5).trans rfl; have hcz19_6 : w18.cell? ⟨gb266, 6, none⟩ = some (.int .i64 a0_6) := (blk_cell BK266.out 6).trans rfl; have hcz19_7 : w18.cell? ⟨gb266, 7, none⟩ = some (.int .i64 a0_7) := (blk_cell BK266.out 7).trans rfl; have hcz19_8 : w18.cell? ⟨gb266, 8, none⟩ = some (.int .i64 a0_8) := (blk_cell BK266.out 8).trans rfl; have hcz19_9 : w18.cell? ⟨gb266, 9, none⟩ = some (.int .i64 a0_9) := (blk_cell BK266.out 9).trans rfl; have hcz19_10 : w18.cell? ⟨gb266, 10, none⟩ = some (.int .i64 a0_10) := (blk_cell BK266.out 10).trans rfl; have hcz19_11 : w18.cell? ⟨gb266, 11, none⟩ = some (.int .i64 a0_11) := (blk_cell BK266.out 11).trans rfl; have hcz19_12 : w18.cell? ⟨gb266, 12, none⟩ = some (.string a0_12) := (blk_cell BK266.out 12).trans rfl; have hfz19_0 := blk_frozen BK266.out 0; have hfz19_1 := blk_frozen BK266.out 1; have hfz19_2 := blk_frozen BK266.out 2; have hfz19_3 := blk_frozen BK266.out 3; have hfz19_4 := blk_frozen BK266.out 4; have hfz19_5 := blk_frozen BK266.out 5; have hfz19_6 := blk_frozen BK266.out 6; have hfz19_7 := blk_frozen BK266.out 7; have hfz19_8 := blk_frozen BK266.out 8; have hfz19_9 := blk_frozen BK266.out 9; have hfz19_10 := blk_frozen BK266.out 10; have hfz19_11 := blk_frozen BK266.out 11; have hfz19_12 := blk_frozen BK266.out 12) | ((with_reducible refine gate_callee (f := 36) rfl ?_); refine goesL_ (some 26) rfl rfl Try.func36 (by kernel_rfl) rfl #[.pointer (some ⟨gb268, 0, none⟩), .int .i64 2, .int .i64 a0_1] rfl (by (try simp only [List.map_toArray, List.map_cons, List.map_nil]); first | done | rfl | (simp only [List.length_drop, List.length_take]; rfl)) ?_; (with_reducible refine (miradorref22_Writer_Int.calls k gb268 t269 t270 2 a0_1 t271 t272 w _ ?side1 ?side2 A6.out).mono ?_); (case side1 => repeat (first | (with_reducible first | exact HI268.out | apply IsS82.alloc | apply IsS82.drewN | apply IsS82.drew | apply IsS82.set_0 | apply IsS82.set_1 | refine IsS82.far ?_ NB268_266.out _) | exact HI268.out)); (case side2 => repeat (first | (with_reducible first | exact HB.out | apply below_alloc | apply pw_below_drewN | apply below_drew1 | refine below_set ?_ (IsS82.ge HI268.out) | refine below_set ?_ GE266.out) | exact HB.out)); rintro e w20 ⟨rfl, hi, hb, hk⟩; refine ⟨_, rfl, ?_⟩; have n0_ := Aside0.mk (KeepBut.blk hk (g' := gb266) (o := .cells #[.int .i64 a0_0, .int .i64 a0_1, .int .i64 a0_2, .int .i64 a0_3, .bool a0_4, .bool a0_5, .int .i64 a0_6, .int .i64 a0_7, .int .i64 a0_8, .int .i64 a0_9, .int .i64 a0_10, .int .i64 a0_11, .string a0_12] 42 (0, 0)) (by (with_reducible repeat (first | refine blk_drewN ?_ _ | refine blk_drew ?_ | refine blk_alloc ?_ _)); exact BK266.out) NB266_268.out (by simp)); have n1_ := Aside0.mk (hb); have n2_ := Aside0.mk (hi); clear BK266; clear HB; clear HI268; have BK266 := n0_; have HB := n1_; have HI268 := n2_; clear n0_ n1_ n2_; (try clear hb); (try clear hb2); (try clear hk); (try clear hi)))
    have n0_ := Aside0.mk (blk_drew BK266.out)
    have n1_ := Aside0.mk (IsS82.drew HI268.out)
    have n2_ := Aside0.mk (below_drew1 HB.out)
    clear BK266
    clear HI268
    clear HB
    have BK266 := n0_
    have HI268 := n1_
    have HB := n2_
    clear n0_ n1_ n2_
    refine start_ (n := 12) (S := fun w' => w'.cell? ⟨gb268, 0, none⟩ = some (.string t271) ∧ w'.cell? ⟨gb268, 1, none⟩ = some (.bool t272) ∧ w'.cell? ⟨gb266, 0, none⟩ = some (.int .i64 a0_0) ∧ w'.cell? ⟨gb266, 1, none⟩ = some (.int .i64 a0_1) ∧ w'.cell? ⟨gb266, 2, none⟩ = some (.int .i64 a0_2) ∧ w'.cell? ⟨gb266, 3, none⟩ = some (.int .i64 a0_3) ∧ w'.cell? ⟨gb266, 4, none⟩ = some (.bool a0_4) ∧ w'.cell? ⟨gb266, 5, none⟩ = some (.bool a0_5) ∧ w'.cell? ⟨gb266, 6, none⟩ = some (.int .i64 a0_6) ∧ w'.cell? ⟨gb266, 7, none⟩ = some (.int .i64 a0_7) ∧ w'.cell? ⟨gb266, 8, none⟩ = some (.int .i64 a0_8) ∧ w'.cell? ⟨gb266, 9, none⟩ = some (.int .i64 a0_9) ∧ w'.cell? ⟨gb266, 10, none⟩ = some (.int .i64 a0_10) ∧ w'.cell? ⟨gb266, 11, none⟩ = some (.int .i64 a0_11) ∧ w'.cell? ⟨gb266, 12, none⟩ = some (.string a0_12)) (ds := [11]) #[false, false, false, false, false, false, false, false, false, false, false, false] (by kernel_rfl) rfl rfl ⟨(blk_cell (Aside0.mk (show IsS82 w _ gb268 t271 t272 from by repeat (first | (with_reducible first | exact HI268.out | apply IsS82.alloc | apply IsS82.drewN | apply IsS82.drew | apply IsS82.set_0 | apply IsS82.set_1 | refine IsS82.far ?_ NB268_266.out _) | exact HI268.out)).1).out 0).trans rfl, (blk_cell (Aside0.mk (show IsS82 w _ gb268 t271 t272 from by repeat (first | (with_reducible first | exact HI268.out | apply IsS82.alloc | apply IsS82.drewN | apply IsS82.drew | apply IsS82.set_0 | apply IsS82.set_1 | refine IsS82.far ?_ NB268_266.out _) | exact HI268.out)).1).out 1).trans rfl, (blk_cell BK266.out 0).trans rfl, (blk_cell BK266.out 1).trans rfl, (blk_cell BK266.out 2).trans rfl, (blk_cell BK266.out 3).trans rfl, (blk_cell BK266.out 4).trans rfl, (blk_cell BK266.out 5).trans rfl, (blk_cell BK266.out 6).trans rfl, (blk_cell BK266.out 7).trans rfl, (blk_cell BK266.out 8).trans rfl, (blk_cell BK266.out 9).trans rfl, (blk_cell BK266.out 10).trans rfl, (blk_cell BK266.out 11).trans rfl, (blk_cell BK266.out 12).trans rfl⟩ (fun hHeld => ?_); refine with_tabW miradorref23_Bytes.tab6 miradorref23_Bytes.bits6 (fun HT_ HW_ => ?_)
    generalize w20.drew = w21 at BK266 HI268 HB hHeld ⊢
    refine pure_ (i := 0) (N := some 27) (v := ?_) (a' := ?_) #[true, false, false, false, false, false, false, false, false, false, false, false] rfl rfl (any_of HT_.out (by kernel_rfl)) (fun _ _ _ h => h) (Or.inl ⟨by rfl, ?_⟩) ?_ ?_
    rotate_left
    ·intro w'
     go_simp
     with_reducible rfl
    rotate_left
    ·simp only [Act.put, List.setIfInBounds_toArray, List.set_cons_zero, List.set_cons_succ, i64_w, i32_w]
     rfl
    refine pure_ (i := 1) (N := some 28) (v := ?_) (a' := ?_) #[true, true, false, false, false, false, false, false, false, false, false, false] rfl rfl (any_of HT_.out (by kernel_rfl)) (fun _ _ _ h => h) (Or.inl ⟨by rfl, ?_⟩) ?_ ?_
    rotate_left
    ·intro w'
     go_simp
     with_reducible rfl
    rotate_left
    ·simp only [Act.put, List.setIfInBounds_toArray, List.set_cons_zero, List.set_cons_succ, i64_w, i32_w]
     rfl
    refine pure_ (i := 2) (N := some 29) (v := ?_) (a' := ?_) #[true, true, true, false, false, false, false, false, false, false, false, false] rfl rfl (any_of HT_.out (by kernel_rfl)) (fun _ _ _ h => h) (Or.inl ⟨by rfl, ?_⟩) ?_ ?_
    rotate_left
    ·intro w'
     go_simp
     with_reducible rfl
    rotate_left
    ·simp only [Act.put, List.setIfInBounds_toArray, List.set_cons_zero, List.set_cons_succ, i64_w, i32_w]
     rfl
    refine pure_ (i := 3) (N := some 30) (v := ?_) (a' := ?_) #[true, true, true, true, false, false, false, false, false, false, false, false] rfl rfl (any_of HT_.out (by kernel_rfl)) (fun _ _ _ h => h) (Or.inl ⟨by rfl, ?_⟩) ?_ ?_
    rotate_left
    ·intro w'
     go_simp
     with_reducible rfl
    rotate_left
    ·simp only [Act.put, List.setIfInBounds_toArray, List.set_cons_zero, List.set_cons_succ, i64_w, i32_w]
     rfl
    refine pure_ (i := 5) (N := some 32) (v := ?_) (a' := ?_) #[true, true, true, true, false, true, false, false, false, false, false, false] rfl rfl (any_of HT_.out (by kernel_rfl)) (fun _ _ _ h => h) (Or.inl ⟨by rfl, ?_⟩) ?_ ?_
    rotate_left
    ·intro w'
     go_simp
     with_reducible rfl
    rotate_left
    ·simp only [Act.put, List.setIfInBounds_toArray, List.set_cons_zero, List.set_cons_succ, i64_w, i32_w]
     rfl
    refine take_ (i := 4) (N := some 31) (v := ?_) (a' := ?_) #[true, true, true, true, true, true, false, false, false, false, false, false] rfl rfl (take_ofW HT_.out HW_.out (by kernel_rfl)) (fun _ _ _ h => h) (Or.inl ⟨by rfl, ?_⟩) hHeld ?_ ?_
    rotate_left
    ·rintro w' ⟨s0, s1, s2, s3, s4, s5, s6, s7, s8, s9, s10, s11, s12, s13, s14⟩
     go_simp
     with_reducible rfl
    rotate_left
    ·simp only [Act.put, List.setIfInBounds_toArray, List.set_cons_zero, List.set_cons_succ, i64_w, i32_w]
     rfl
    refine take_ (i := 6) (N := some 33) (v := ?_) (a' := ?_) #[true, true, true, true, true, true, true, false, false, false, false, false] rfl rfl (take_ofW HT_.out HW_.out (by kernel_rfl)) (fun _ _ _ h => h) (Or.inl ⟨by rfl, ?_⟩) hHeld ?_ ?_
    rotate_left
    ·rintro w' ⟨s0, s1, s2, s3, s4, s5, s6, s7, s8, s9, s10, s11, s12, s13, s14⟩
     go_simp
     with_reducible rfl
    rotate_left
    ·simp only [Act.put, List.setIfInBounds_toArray, List.set_cons_zero, List.set_cons_succ, i64_w, i32_w]
     rfl
    refine one_ (i := 7) (N := some 34) #[true, true, true, true, true, true, true, true, false, false, false, false] rfl rfl (one_of HT_.out (by kernel_rfl)) (by decide) (fun K hK => ?_)
    refine goes_ Try.func43 (by kernel_rfl) rfl #[.agg #[.int .i64 a0_2, .int .i64 a0_3, .bool a0_4, .bool a0_5, .int .i64 a0_6, .int .i64 a0_7, .int .i64 a0_8, .int .i64 a0_9, .int .i64 a0_10, .int .i64 a0_11]] (by rfl) rfl rfl (by (try simp only [List.map_toArray, List.map_cons, List.map_nil]); first | done | rfl | (simp only [List.length_drop, List.length_take]; rfl)) ?_
    with_reducible refine (miradorref13_Bytes.calls k a0_2 a0_3 a0_4 a0_5 a0_6 a0_7 a0_8 a0_9 a0_10 a0_11 t273 _ A7.out).mono ?_
    rintro e w22 ⟨rfl, hb⟩
    refine ⟨_, rfl, ?_⟩
    have n0_ := Aside0.mk (blk_below (g := gb266) (o := .cells #[.int .i64 a0_0, .int .i64 a0_1, .int .i64 a0_2, .int .i64 a0_3, .bool a0_4, .bool a0_5, .int .i64 a0_6, .int .i64 a0_7, .int .i64 a0_8, .int .i64 a0_9, .int .i64 a0_10, .int .i64 a0_11, .string a0_12] 42 (0, 0)) (by (with_reducible repeat (first | refine blk_drewN ?_ _ | refine blk_drew ?_ | refine blk_alloc ?_ _)); exact BK266.out) hb)
    have n1_ := Aside0.mk (IsS82.below (by repeat (first | (with_reducible first | exact HI268.out | apply IsS82.alloc | apply IsS82.drewN | apply IsS82.drew | apply IsS82.set_0 | apply IsS82.set_1 | refine IsS82.far ?_ NB268_266.out _) | exact HI268.out)) hb)
    have n2_ := Aside0.mk (below_step (by repeat (first | (with_reducible first | exact HB.out | apply below_alloc | apply pw_below_drewN | apply below_drew1 | refine below_set ?_ (IsS82.ge HI268.out) | refine below_set ?_ GE266.out) | exact HB.out)) hb)
    clear BK266
    clear HI268
    clear HB
    have BK266 := n0_
    have HI268 := n1_
    have HB := n2_
    clear n0_ n1_ n2_
    (try clear hb)
    (try clear hb2)
    (try clear hk)
    (try clear hi)
    refine hK.out _ _ ⟨(blk_cell (Aside0.mk (show IsS82 w _ gb268 t271 t272 from by repeat (first | (with_reducible first | exact HI268.out | apply IsS82.alloc | apply IsS82.drewN | apply IsS82.drew | apply IsS82.set_0 | apply IsS82.set_1 | refine IsS82.far ?_ NB268_266.out _) | exact HI268.out)).1).out 0).trans rfl, (blk_cell (Aside0.mk (show IsS82 w _ gb268 t271 t272 from by repeat (first | (with_reducible first | exact HI268.out | apply IsS82.alloc | apply IsS82.drewN | apply IsS82.drew | apply IsS82.set_0 | apply IsS82.set_1 | refine IsS82.far ?_ NB268_266.out _) | exact HI268.out)).1).out 1).trans rfl, (blk_cell BK266.out 0).trans rfl, (blk_cell BK266.out 1).trans rfl, (blk_cell BK266.out 2).trans rfl, (blk_cell BK266.out 3).trans rfl, (blk_cell BK266.out 4).trans rfl, (blk_cell BK266.out 5).trans rfl, (blk_cell BK266.out 6).trans rfl, (blk_cell BK266.out 7).trans rfl, (blk_cell BK266.out 8).trans rfl, (blk_cell BK266.out 9).trans rfl, (blk_cell BK266.out 10).trans rfl, (blk_cell BK266.out 11).trans rfl, (blk_cell BK266.out 12).trans rfl⟩ (fun hHeld => ?_)
    clear hK K
    refine norm_ (a' := ?_) ?_ ?_
    rotate_left
    ·show Act.put _ (some 34) _ = _
     simp only [Act.put, List.setIfInBounds_toArray, List.set_cons_zero, List.set_cons_succ, i64_w, i32_w]
     rfl
    refine pure_ (i := 8) (N := some 35) (v := ?_) (a' := ?_) #[true, true, true, true, true, true, true, true, true, false, false, false] rfl rfl (any_of HT_.out (by kernel_rfl)) (fun _ _ _ h => h) (Or.inl ⟨by rfl, ?_⟩) ?_ ?_
    rotate_left
    ·intro w'
     go_simp
     with_reducible rfl
    rotate_left
    ·simp only [Act.put, List.setIfInBounds_toArray, List.set_cons_zero, List.set_cons_succ, i64_w, i32_w]
     rfl
    refine pure_ (i := 9) (N := some 36) (v := ?_) (a' := ?_) #[true, true, true, true, true, true, true, true, true, true, false, false] rfl rfl (any_of HT_.out (by kernel_rfl)) (fun _ _ _ h => h) (Or.inl ⟨by rfl, ?_⟩) ?_ ?_
    rotate_left
    ·intro w'
     go_simp
     with_reducible rfl
    rotate_left
    ·simp only [Act.put, List.setIfInBounds_toArray, List.set_cons_zero, List.set_cons_succ, i64_w, i32_w]
     rfl
    refine pure_ (i := 10) (N := some 37) (v := ?_) (a' := ?_) #[true, true, true, true, true, true, true, true, true, true, true, false] rfl rfl (any_of HT_.out (by kernel_rfl)) (fun _ _ _ h => h) (Or.inl ⟨by rfl, ?_⟩) ?_ ?_
    rotate_left
    ·intro w'
     go_simp
     with_reducible rfl
    rotate_left
    ·simp only [Act.put, List.setIfInBounds_toArray, List.set_cons_zero, List.set_cons_succ, i64_w, i32_w]
     rfl
    refine last_ (i := 11) (N := none) #[true, true, true, true, true, true, true, true, true, true, true, true] rfl rfl (one_of HT_.out (by kernel_rfl)) (by decide) (fun K hK => ?_)
    have hfs268_0_ := (show World.frozen? _ ⟨gb268, 0, none⟩ = false from (blk_frozen (Aside0.mk (show IsS82 w _ gb268 t271 t272 from by repeat (first | (with_reducible first | exact HI268.out | apply IsS82.alloc | apply IsS82.drewN | apply IsS82.drew | apply IsS82.set_0 | apply IsS82.set_1 | refine IsS82.far ?_ NB268_266.out _) | exact HI268.out)).1).out 0).trans rfl)
    have hfs268_1_ := (show World.frozen? _ ⟨gb268, 1, none⟩ = false from (blk_frozen (Aside0.mk (show IsS82 w _ gb268 t271 t272 from by repeat (first | (with_reducible first | exact HI268.out | apply IsS82.alloc | apply IsS82.drewN | apply IsS82.drew | apply IsS82.set_0 | apply IsS82.set_1 | refine IsS82.far ?_ NB268_266.out _) | exact HI268.out)).1).out 1).trans rfl)
    refine skip_ (w1 := ?_) (by rfl) rfl ?_ ?_
    rotate_left
    ·go_simp
     rfl
    refine hK.out _ _ ?_
    clear hK K
    refine done_ (done_of HT_.out (by kernel_rfl)) ?_
    have hcz23_0 : w22.cell? ⟨gb266, 0, none⟩ = some (.int .i64 a0_0) := (blk_cell BK266.out 0).trans rfl
    have hcz23_1 : w22.cell? ⟨gb266, 1, none⟩ = some (.int .i64 a0_1) := (blk_cell BK266.out 1).trans rfl
    have hcz23_2 : w22.cell? ⟨gb266, 2, none⟩ = some (.int .i64 a0_2) := (blk_cell BK266.out 2).trans rfl
    have hcz23_3 : w22.cell? ⟨gb266, 3, none⟩ = some (.int .i64 a0_3) := (blk_cell BK266.out 3).trans rfl
    have hcz23_4 : w22.cell? ⟨gb266, 4, none⟩ = some (.bool a0_4) := (blk_cell BK266.out 4).trans rfl
    have hcz23_5 : w22.cell? ⟨gb266, 5, none⟩ = some (.bool a0_5) := (blk_cell BK266.out 5).trans rfl
    have hcz23_6 : w22.cell? ⟨gb266, 6, none⟩ = some (.int .i64 a0_6) := (blk_cell BK266.out 6).trans rfl
    have hcz23_7 : w22.cell? ⟨gb266, 7, none⟩ = some (.int .i64 a0_7) := (blk_cell BK266.out 7).trans rfl
    have hcz23_8 : w22.cell? ⟨gb266, 8, none⟩ = some (.int .i64 a0_8) := (blk_cell BK266.out 8).trans rfl
    have hcz23_9 : w22.cell? ⟨gb266, 9, none⟩ = some (.int .i64 a0_9) := (blk_cell BK266.out 9).trans rfl
    have hcz23_10 : w22.cell? ⟨gb266, 10, none⟩ = some (.int .i64 a0_10) := (blk_cell BK266.out 10).trans rfl
    have hcz23_11 : w22.cell? ⟨gb266, 11, none⟩ = some (.int .i64 a0_11) := (blk_cell BK266.out 11).trans rfl
    have hcz23_12 : w22.cell? ⟨gb266, 12, none⟩ = some (.string a0_12) := (blk_cell BK266.out 12).trans rfl
    have hfz23_0 := blk_frozen BK266.out 0
    have hfz23_1 := blk_frozen BK266.out 1
    have hfz23_2 := blk_frozen BK266.out 2
    have hfz23_3 := blk_frozen BK266.out 3
    have hfz23_4 := blk_frozen BK266.out 4
    have hfz23_5 := blk_frozen BK266.out 5
    have hfz23_6 := blk_frozen BK266.out 6
    have hfz23_7 := blk_frozen BK266.out 7
    have hfz23_8 := blk_frozen BK266.out 8
    have hfz23_9 := blk_frozen BK266.out 9
    have hfz23_10 := blk_frozen BK266.out 10
    have hfz23_11 := blk_frozen BK266.out 11
    have hfz23_12 := blk_frozen BK266.out 12
    try go_wp2_with (first | ((with_reducible refine gate_callee (f := 44) rfl ?_); refine goesL_ (some 41) rfl rfl Try.func44 (by kernel_rfl) rfl #[.pointer (some ⟨gb268, 0, none⟩), .string a0_12] rfl (by (try simp only [List.map_toArray, List.map_cons, List.map_nil]); first | done | rfl | (simp only [List.length_drop, List.length_take]; rfl)) ?_; (with_reducible refine (miradorref23_long.calls k gb268 (t271 ++ t273) t272 a0_12 t274 t275 w _ ?side1 ?side2 A9.out).mono ?_); (case side1 => repeat (first | (with_reducible first | exact HI268.out | apply IsS82.alloc | apply IsS82.drewN | apply IsS82.drew | apply IsS82.set_0 | apply IsS82.set_1 | refine IsS82.far ?_ NB268_266.out _) | exact HI268.out)); (case side2 => repeat (first | (with_reducible first | exact HB.out | apply below_alloc | apply pw_below_drewN | apply below_drew1 | refine below_set ?_ (IsS82.ge HI268.out) | refine below_set ?_ GE266.out) | exact HB.out)); rintro e w24 ⟨rfl, hi, hb, hk⟩; refine ⟨_, rfl, ?_⟩; have n0_ := Aside0.mk (KeepBut.blk hk (g' := gb266) (o := .cells #[.int .i64 a0_0, .int .i64 a0_1, .int .i64 a0_2, .int .i64 a0_3, .bool a0_4, .bool a0_5, .int .i64 a0_6, .int .i64 a0_7, .int .i64 a0_8, .int .i64 a0_9, .int .i64 a0_10, .int .i64 a0_11, .string a0_12] 42 (0, 0)) (by (with_reducible repeat (first | refine blk_drewN ?_ _ | refine blk_drew ?_ | refine blk_alloc ?_ _)); refine blk_far ?_ NB266_268.out _; (with_reducible repeat (first | refine blk_drewN ?_ _ | refine blk_drew ?_ | refine blk_alloc ?_ _)); exact BK266.out) NB266_268.out (by simp)); have n1_ := Aside0.mk (hb); have n2_ := Aside0.mk (hi); clear BK266; clear HB; clear HI268; have BK266 := n0_; have HB := n1_; have HI268 := n2_; clear n0_ n1_ n2_; (try clear hb); (try clear hb2); (try clear hk); (try clear hi)) | ((with_reducible refine gate_callee (f := 37) rfl ?_); refine goesL_ (some 43) rfl rfl Try.func37 (by kernel_rfl) rfl #[.pointer (some ⟨gb268, 0, none⟩)] rfl (by (try simp only [List.map_toArray, List.map_cons, List.map_nil]); first | done | rfl | (simp only [List.length_drop, List.length_take]; rfl)) ?_; (with_reducible refine (miradorref23_done.calls gb268 t274 t275 t276 t277 t278 t279 w _ ?side1 ?side2 A10.out).mono ?_); (case side1 => repeat (first | (with_reducible first | exact HI268.out | apply IsS82.alloc | apply IsS82.drewN | apply IsS82.drew | apply IsS82.set_0 | apply IsS82.set_1 | refine IsS82.far ?_ NB268_266.out _) | exact HI268.out)); (case side2 => repeat (first | (with_reducible first | exact HB.out | apply below_alloc | apply pw_below_drewN | apply below_drew1 | refine below_set ?_ (IsS82.ge HI268.out) | refine below_set ?_ GE266.out) | exact HB.out)); rintro e w25 ⟨rfl, hi, hb, hk⟩; refine ⟨_, rfl, ?_⟩; have n0_ := Aside0.mk (KeepBut.blk hk (g' := gb266) (o := .cells #[.int .i64 a0_0, .int .i64 a0_1, .int .i64 a0_2, .int .i64 a0_3, .bool a0_4, .bool a0_5, .int .i64 a0_6, .int .i64 a0_7, .int .i64 a0_8, .int .i64 a0_9, .int .i64 a0_10, .int .i64 a0_11, .string a0_12] 42 (0, 0)) (by (with_reducible repeat (first | refine blk_drewN ?_ _ | refine blk_drew ?_ | refine blk_alloc ?_ _)); exact BK266.out) NB266_268.out (by simp)); have n1_ := Aside0.mk (hb); have n2_ := Aside0.mk (hi); clear BK266; clear HB; clear HI268; have BK266 := n0_; have HB := n1_; have HI268 := n2_; clear n0_ n1_ n2_; (try clear hb); (try clear hb2); (try clear hk); (try clear hi)))
    go_ret2
    exact ⟨by first | rfl | (simp [errW_none, errW_some] <;> rfl) | (simp [*, errW_none, errW_some] <;> rfl), by repeat (first | (with_reducible first | exact HB.out | apply below_alloc | apply pw_below_drewN | apply below_drew1 | refine below_set ?_ (IsS82.ge HI268.out) | refine below_set ?_ GE266.out) | exact HB.out)⟩
   ·rw [if_neg c8] at H
    exact absurd H (by simp)
  ·rw [if_neg c4] at H
   have c4b0 : (a0_0 == 0) = false := beq_eq_false_iff_ne.mpr c4
   have c4b1 : (a0_0 != 0) = true := bne_iff_ne.mpr c4
   replace H := Option.bind_eq_some_iff.mp H
   obtain ⟨⟨t281, t282⟩, A260, H⟩ := H
   replace H : ((miradorref22_Writer_Int.f k t281 t282 2 a0_1).bind fun bt283 => ((miradorref13_Bytes.f k a0_2 a0_3 a0_4 a0_5 a0_6 a0_7 a0_8 a0_9 a0_10 a0_11).bind fun t285 => (if bt283.1.size + t285.size ≤ 9223372036854775807 then ((miradorref23_long.f k (bt283.1 ++ t285) bt283.2 a0_12).bind fun bt286 => ((miradorref23_done.f bt286.1 bt286.2).bind fun bt288 => (some (bt288.1, bt288.2.1)))) else (none)))) = some (r1, r2) := H
   have A26 := Aside0.mk A260
   clear A260
   replace H := Option.bind_eq_some_iff.mp H
   obtain ⟨⟨t283, t284⟩, A270, H⟩ := H
   replace H : ((miradorref13_Bytes.f k a0_2 a0_3 a0_4 a0_5 a0_6 a0_7 a0_8 a0_9 a0_10 a0_11).bind fun t285 => (if t283.size + t285.size ≤ 9223372036854775807 then ((miradorref23_long.f k (t283 ++ t285) t284 a0_12).bind fun bt286 => ((miradorref23_done.f bt286.1 bt286.2).bind fun bt288 => (some (bt288.1, bt288.2.1)))) else (none))) = some (r1, r2) := H
   have A27 := Aside0.mk A270
   clear A270
   replace H := Option.bind_eq_some_iff.mp H
   obtain ⟨t285, A280, H⟩ := H
   replace H : (if t283.size + t285.size ≤ 9223372036854775807 then ((miradorref23_long.f k (t283 ++ t285) t284 a0_12).bind fun bt286 => ((miradorref23_done.f bt286.1 bt286.2).bind fun bt288 => (some (bt288.1, bt288.2.1)))) else (none)) = some (r1, r2) := H
   have A28 := Aside0.mk A280
   clear A280
   by_cases c29 : t283.size + t285.size ≤ 9223372036854775807
   ·rw [if_pos c29] at H
    have c29b0 := eq_true c29
    have c29b1 : decide (t283.size + t285.size ≤ 9223372036854775807) = true := decide_eq_true c29
    try have c29b2 : (9223372036854775807 < t283.size + t285.size) = False := eq_false (Nat.not_lt.2 c29)
    replace H := Option.bind_eq_some_iff.mp H
    obtain ⟨⟨t286, t287⟩, A300, H⟩ := H
    replace H : ((miradorref23_done.f t286 t287).bind fun bt288 => (some (bt288.1, bt288.2.1))) = some (r1, r2) := H
    have A30 := Aside0.mk A300
    clear A300
    replace H := Option.bind_eq_some_iff.mp H
    obtain ⟨⟨t288, t289, t290, t291⟩, A310, H⟩ := H
    replace H : (some (t288, t289)) = some (r1, r2) := H
    have A31 := Aside0.mk A310
    clear A310
    simp only [Option.some.injEq, Prod.mk.injEq] at H
    obtain ⟨rfl, rfl⟩ := H
    go_enter Try.func12, Try.ntmps12
    try go_wp2_with (first | ((with_reducible refine gate_dst (N := 1) rfl ?_); refine box_event ?hg (N := 1) ?hd (cs := #[.int .i64 a0_0, .int .i64 a0_1, .int .i64 a0_2, .int .i64 a0_3, .bool a0_4, .bool a0_5, .int .i64 a0_6, .int .i64 a0_7, .int .i64 a0_8, .int .i64 a0_9, .int .i64 a0_10, .int .i64 a0_11, .string a0_12]) (t := 42) ?hr ?_; (case hd => rfl); (case hg => rfl); (case hr => first | (go_simp; done) | (go_simp; rfl)); intro gb266 hg w32 hbox hb; have n0_ := Aside0.mk (below_step (by repeat (first | (with_reducible first | exact HB.out | apply below_alloc | apply pw_below_drewN | apply below_drew1) | exact HB.out)) hb); have n1_ := Aside0.mk (hbox); have n2_ := Aside0.mk ((by rw [hg]; exact (below_size (by repeat (first | (with_reducible first | exact HB.out | apply below_alloc | apply pw_below_drewN | apply below_drew1) | exact HB.out))) : w.heap.size ≤ gb266)); have n3_ := Aside0.mk ((by rw [hg]; exact (below_size (by repeat (first | (with_reducible first | exact HB.out | apply below_alloc | apply pw_below_drewN | apply below_drew1) | exact HB.out))) : w.heap.size ≤ gb266)); clear HB; have HB := n0_; have BK266 := n1_; have GW266 := n2_; have GE266 := n3_; clear n0_ n1_ n2_ n3_; clear hb hbox hg; have hcz33_0 : w32.cell? ⟨gb266, 0, none⟩ = some (.int .i64 a0_0) := (blk_cell BK266.out 0).trans rfl; have hcz33_1 : w32.cell? ⟨gb266, 1, none⟩ = some (.int .i64 a0_1) := (blk_cell BK266.out 1).trans rfl; have hcz33_2 : w32.cell? ⟨gb266, 2, none⟩ = some (.int .i64 a0_2) := (blk_cell BK266.out 2).trans rfl; have hcz33_3 : w32.cell? ⟨gb266, 3, none⟩ = some (.int .i64 a0_3) := (blk_cell BK266.out 3).trans rfl; have hcz33_4 : w32.cell? ⟨gb266, 4, none⟩ = some (.bool a0_4) := (blk_cell BK266.out 4).trans rfl; have hcz33_5 : w32.cell? ⟨gb266, 5, none⟩ = some (.bool a0_5) := (blk_cell BK266.out 5).trans rfl; have hcz33_6 : w32.cell? ⟨gb266, 6, none⟩ = some (.int .i64 a0_6) := (blk_cell BK266.out 6).trans rfl; have hcz33_7 : w32.cell? ⟨gb266, 7, none⟩ = some (.int .i64 a0_7) := (blk_cell BK266.out 7).trans rfl; have hcz33_8 : w32.cell? ⟨gb266, 8, none⟩ = some (.int .i64 a0_8) := (blk_cell BK266.out 8).trans rfl; have hcz33_9 : w32.cell? ⟨gb266, 9, none⟩ = some (.int .i64 a0_9) := (blk_cell BK266.out 9).trans rfl; have hcz33_10 : w32.cell? ⟨gb266, 10, none⟩ = some (.int .i64 a0_10) := (blk_cell BK266.out 10).trans rfl; have hcz33_11 : w32.cell? ⟨gb266, 11, none⟩ = some (.int .i64 a0_11) := (blk_cell BK266.out 11).trans rfl; have hcz33_12 : w32.cell? ⟨gb266, 12, none⟩ = some (.string a0_12) := (blk_cell BK266.out 12).trans rfl; have hfz33_0 := blk_frozen BK266.out 0; have hfz33_1 := blk_frozen BK266.out 1; have hfz33_2 := blk_frozen BK266.out 2; have hfz33_3 := blk_frozen BK266.out 3; have hfz33_4 := blk_frozen BK266.out 4; have hfz33_5 := blk_frozen BK266.out 5; have hfz33_6 := blk_frozen BK266.out 6; have hfz33_7 := blk_frozen BK266.out 7; have hfz33_8 := blk_frozen BK266.out 8; have hfz33_9 := blk_frozen BK266.out 9; have hfz33_10 := blk_frozen BK266.out 10; have hfz33_11 := blk_frozen BK266.out 11; have hfz33_12 := blk_frozen BK266.out 12) | ((with_reducible refine gate_callee (f := 42) rfl ?_); refine goesL_ (some 7) rfl rfl Try.func42 (by kernel_rfl) rfl #[.agg #[.int .i64 a0_2, .int .i64 a0_3, .bool a0_4, .bool a0_5, .int .i64 a0_6, .int .i64 a0_7, .int .i64 a0_8, .int .i64 a0_9, .int .i64 a0_10, .int .i64 a0_11]] rfl (by (try simp only [List.map_toArray, List.map_cons, List.map_nil]); first | done | rfl | (simp only [List.length_drop, List.length_take]; rfl)) ?_; (with_reducible refine (miradorref13_Valid.calls k a0_2 a0_3 a0_4 a0_5 a0_6 a0_7 a0_8 a0_9 a0_10 a0_11 true _ A2.out).mono ?_); rintro e w34 ⟨rfl, hb⟩; refine ⟨_, rfl, ?_⟩; have n0_ := Aside0.mk (blk_below (g := gb266) (o := .cells #[.int .i64 a0_0, .int .i64 a0_1, .int .i64 a0_2, .int .i64 a0_3, .bool a0_4, .bool a0_5, .int .i64 a0_6, .int .i64 a0_7, .int .i64 a0_8, .int .i64 a0_9, .int .i64 a0_10, .int .i64 a0_11, .string a0_12] 42 (0, 0)) (by (with_reducible repeat (first | refine blk_drewN ?_ _ | refine blk_drew ?_ | refine blk_alloc ?_ _)); exact BK266.out) hb); have n1_ := Aside0.mk (below_step (by repeat (first | (with_reducible first | exact HB.out | apply below_alloc | apply pw_below_drewN | apply below_drew1 | refine below_set ?_ GE266.out) | exact HB.out)) hb); clear BK266; clear HB; have BK266 := n0_; have HB := n1_; clear n0_ n1_; (try clear hb); (try clear hb2); (try clear hk); (try clear hi); have hcz35_0 : w34.cell? ⟨gb266, 0, none⟩ = some (.int .i64 a0_0) := (blk_cell BK266.out 0).trans rfl; have hcz35_1 : w34.cell? ⟨gb266, 1, none⟩ = some (.int .i64 a0_1) := (blk_cell BK266.out 1).trans rfl; have hcz35_2 : w34.cell? ⟨gb266, 2, none⟩ = some (.int .i64 a0_2) := (blk_cell BK266.out 2).trans rfl; have hcz35_3 : w34.cell? ⟨gb266, 3, none⟩ = some (.int .i64 a0_3) := (blk_cell BK266.out 3).trans rfl; have hcz35_4 : w34.cell? ⟨gb266, 4, none⟩ = some (.bool a0_4) := (blk_cell BK266.out 4).trans rfl; have hcz35_5 : w34.cell? ⟨gb266, 5, none⟩ = some (.bool a0_5) := (blk_cell BK266.out 5).trans rfl; have hcz35_6 : w34.cell? ⟨gb266, 6, none⟩ = some (.int .i64 a0_6) := (blk_cell BK266.out 6).trans rfl; have hcz35_7 : w34.cell? ⟨gb266, 7, none⟩ = some (.int .i64 a0_7) := (blk_cell BK266.out 7).trans rfl; have hcz35_8 : w34.cell? ⟨gb266, 8, none⟩ = some (.int .i64 a0_8) := (blk_cell BK266.out 8).trans rfl; have hcz35_9 : w34.cell? ⟨gb266, 9, none⟩ = some (.int .i64 a0_9) := (blk_cell BK266.out 9).trans rfl; have hcz35_10 : w34.cell? ⟨gb266, 10, none⟩ = some (.int .i64 a0_10) := (blk_cell BK266.out 10).trans rfl; have hcz35_11 : w34.cell? ⟨gb266, 11, none⟩ = some (.int .i64 a0_11) := (blk_cell BK266.out 11).trans rfl; have hcz35_12 : w34.cell? ⟨gb266, 12, none⟩ = some (.string a0_12) := (blk_cell BK266.out 12).trans rfl; have hfz35_0 := blk_frozen BK266.out 0; have hfz35_1 := blk_frozen BK266.out 1; have hfz35_2 := blk_frozen BK266.out 2; have hfz35_3 := blk_frozen BK266.out 3; have hfz35_4 := blk_frozen BK266.out 4; have hfz35_5 := blk_frozen BK266.out 5; have hfz35_6 := blk_frozen BK266.out 6; have hfz35_7 := blk_frozen BK266.out 7; have hfz35_8 := blk_frozen BK266.out 8; have hfz35_9 := blk_frozen BK266.out 9; have hfz35_10 := blk_frozen BK266.out 10; have hfz35_11 := blk_frozen BK266.out 11; have hfz35_12 := blk_frozen BK266.out 12) | ((with_reducible refine gate_dst (N := 18) rfl ?_); refine box_event ?hg (N := 18) ?hd (cs := #[.string (⟨#[]⟩ : ByteArray), .bool (a0_1 != 0)]) (t := 82) ?hr ?_; (case hd => rfl); (case hg => rfl); (case hr => first | (go_simp; done) | (go_simp; rfl)); intro gb280 hg w36 hbox hb; have n0_ := Aside0.mk (blk_below (g := gb266) (o := .cells #[.int .i64 a0_0, .int .i64 a0_1, .int .i64 a0_2, .int .i64 a0_3, .bool a0_4, .bool a0_5, .int .i64 a0_6, .int .i64 a0_7, .int .i64 a0_8, .int .i64 a0_9, .int .i64 a0_10, .int .i64 a0_11, .string a0_12] 42 (0, 0)) (by (with_reducible repeat (first | refine blk_drewN ?_ _ | refine blk_drew ?_ | refine blk_alloc ?_ _)); exact BK266.out) hb); have n1_ := Aside0.mk (below_step (by repeat (first | (with_reducible first | exact HB.out | apply below_alloc | apply pw_below_drewN | apply below_drew1 | refine below_set ?_ GE266.out) | exact HB.out)) hb); have n2_ := Aside0.mk ((by rw [hg]; exact (below_size (by repeat (first | (with_reducible first | exact HB.out | apply below_alloc | apply pw_below_drewN | apply below_drew1 | refine below_set ?_ GE266.out) | exact HB.out))) : w.heap.size ≤ gb280)); have n3_ := Aside0.mk ((by rw [hg]; exact (below_size (by repeat (first | (with_reducible first | exact HB.out | apply below_alloc | apply pw_below_drewN | apply below_drew1 | refine below_set ?_ GE266.out) | exact HB.out))) : w.heap.size ≤ gb280)); have n4_ := Aside0.mk ((by rw [hg]; exact Nat.ne_of_lt (blk_lt (g := gb266) (o := .cells #[.int .i64 a0_0, .int .i64 a0_1, .int .i64 a0_2, .int .i64 a0_3, .bool a0_4, .bool a0_5, .int .i64 a0_6, .int .i64 a0_7, .int .i64 a0_8, .int .i64 a0_9, .int .i64 a0_10, .int .i64 a0_11, .string a0_12] 42 (0, 0)) (by (with_reducible repeat (first | refine blk_drewN ?_ _ | refine blk_drew ?_ | refine blk_alloc ?_ _)); exact BK266.out)) : gb266 ≠ gb280)); have n5_ := Aside0.mk ((by rw [hg]; exact Nat.ne_of_gt (blk_lt (g := gb266) (o := .cells #[.int .i64 a0_0, .int .i64 a0_1, .int .i64 a0_2, .int .i64 a0_3, .bool a0_4, .bool a0_5, .int .i64 a0_6, .int .i64 a0_7, .int .i64 a0_8, .int .i64 a0_9, .int .i64 a0_10, .int .i64 a0_11, .string a0_12] 42 (0, 0)) (by (with_reducible repeat (first | refine blk_drewN ?_ _ | refine blk_drew ?_ | refine blk_alloc ?_ _)); exact BK266.out)) : gb280 ≠ gb266)); have n6_ := Aside0.mk (show IsS82 w w36 gb280 (⟨#[]⟩ : ByteArray) (a0_1 != 0) from ⟨hbox, (by rw [hg]; exact (below_size (by repeat (first | (with_reducible first | exact HB.out | apply below_alloc | apply pw_below_drewN | apply below_drew1 | refine below_set ?_ GE266.out) | exact HB.out))) : w.heap.size ≤ gb280)⟩); clear BK266; clear HB; have BK266 := n0_; have HB := n1_; have GW280 := n2_; have GE280 := n3_; have NB266_280 := n4_; have NB280_266 := n5_; have HI280 := n6_; clear n0_ n1_ n2_ n3_ n4_ n5_ n6_; clear hb hbox hg; have hnb37 := NB266_280.out; have hnc37 := NB280_266.out; have hcz38_0 : w36.cell? ⟨gb266, 0, none⟩ = some (.int .i64 a0_0) := (blk_cell BK266.out 0).trans rfl; have hcz38_1 : w36.cell? ⟨gb266, 1, none⟩ = some (.int .i64 a0_1) := (blk_cell BK266.out 1).trans rfl; have hcz38_2 : w36.cell? ⟨gb266, 2, none⟩ = some (.int .i64 a0_2) := (blk_cell BK266.out 2).trans rfl; have hcz38_3 : w36.cell? ⟨gb266, 3, none⟩ = some (.int .i64 a0_3) := (blk_cell BK266.out 3).trans rfl; have hcz38_4 : w36.cell? ⟨gb266, 4, none⟩ = some (.bool a0_4) := (blk_cell BK266.out 4).trans rfl; have hcz38_5 : w36.cell? ⟨gb266, 5, none⟩ = some (.bool a0_5) := (blk_cell BK266.out 5).trans rfl; have hcz38_6 : w36.cell? ⟨gb266, 6, none⟩ = some (.int .i64 a0_6) := (blk_cell BK266.out 6).trans rfl; have hcz38_7 : w36.cell? ⟨gb266, 7, none⟩ = some (.int .i64 a0_7) := (blk_cell BK266.out 7).trans rfl; have hcz38_8 : w36.cell? ⟨gb266, 8, none⟩ = some (.int .i64 a0_8) := (blk_cell BK266.out 8).trans rfl; have hcz38_9 : w36.cell? ⟨gb266, 9, none⟩ = some (.int .i64 a0_9) := (blk_cell BK266.out 9).trans rfl; have hcz38_10 : w36.cell? ⟨gb266, 10, none⟩ = some (.int .i64 a0_10) := (blk_cell BK266.out 10).trans rfl; have hcz38_11 : w36.cell? ⟨gb266, 11, none⟩ = some (.int .i64 a0_11) := (blk_cell BK266.out 11).trans rfl; have hcz38_12 : w36.cell? ⟨gb266, 12, none⟩ = some (.string a0_12) := (blk_cell BK266.out 12).trans rfl; have hfz38_0 := blk_frozen BK266.out 0; have hfz38_1 := blk_frozen BK266.out 1; have hfz38_2 := blk_frozen BK266.out 2; have hfz38_3 := blk_frozen BK266.out 3; have hfz38_4 := blk_frozen BK266.out 4; have hfz38_5 := blk_frozen BK266.out 5; have hfz38_6 := blk_frozen BK266.out 6; have hfz38_7 := blk_frozen BK266.out 7; have hfz38_8 := blk_frozen BK266.out 8; have hfz38_9 := blk_frozen BK266.out 9; have hfz38_10 := blk_frozen BK266.out 10; have hfz38_11 := blk_frozen BK266.out 11; have hfz38_12 := blk_frozen BK266.out 12) | ((with_reducible refine gate_callee (f := 36) rfl ?_); refine goesL_ (some 22) rfl rfl Try.func36 (by kernel_rfl) rfl #[.pointer (some ⟨gb280, 0, none⟩), .int .i64 2, .int .i64 a0_0] rfl (by (try simp only [List.map_toArray, List.map_cons, List.map_nil]); first | done | rfl | (simp only [List.length_drop, List.length_take]; rfl)) ?_; (with_reducible refine (miradorref22_Writer_Int.calls k gb280 (⟨#[]⟩ : ByteArray) (a0_1 != 0) 2 a0_0 t281 t282 w _ ?side1 ?side2 A26.out).mono ?_); (case side1 => repeat (first | (with_reducible first | exact HI280.out | apply IsS82.alloc | apply IsS82.drewN | apply IsS82.drew | apply IsS82.set_0 | apply IsS82.set_1 | refine IsS82.far ?_ NB280_266.out _) | exact HI280.out)); (case side2 => repeat (first | (with_reducible first | exact HB.out | apply below_alloc | apply pw_below_drewN | apply below_drew1 | refine below_set ?_ (IsS82.ge HI280.out) | refine below_set ?_ GE266.out) | exact HB.out)); rintro e w39 ⟨rfl, hi, hb, hk⟩; refine ⟨_, rfl, ?_⟩; have n0_ := Aside0.mk (KeepBut.blk hk (g' := gb266) (o := .cells #[.int .i64 a0_0, .int .i64 a0_1, .int .i64 a0_2, .int .i64 a0_3, .bool a0_4, .bool a0_5, .int .i64 a0_6, .int .i64 a0_7, .int .i64 a0_8, .int .i64 a0_9, .int .i64 a0_10, .int .i64 a0_11, .string a0_12] 42 (0, 0)) (by (with_reducible repeat (first | refine blk_drewN ?_ _ | refine blk_drew ?_ | refine blk_alloc ?_ _)); exact BK266.out) NB266_280.out (by simp)); have n1_ := Aside0.mk (hb); have n2_ := Aside0.mk (hi); clear BK266; clear HB; clear HI280; have BK266 := n0_; have HB := n1_; have HI280 := n2_; clear n0_ n1_ n2_; (try clear hb); (try clear hb2); (try clear hk); (try clear hi); have hcz40_0 : w39.cell? ⟨gb266, 0, none⟩ = some (.int .i64 a0_0) := (blk_cell BK266.out 0).trans rfl; have hcz40_1 : w39.cell? ⟨gb266, 1, none⟩ = some (.int .i64 a0_1) := (blk_cell BK266.out 1).trans rfl; have hcz40_2 : w39.cell? ⟨gb266, 2, none⟩ = some (.int .i64 a0_2) := (blk_cell BK266.out 2).trans rfl; have hcz40_3 : w39.cell? ⟨gb266, 3, none⟩ = some (.int .i64 a0_3) := (blk_cell BK266.out 3).trans rfl; have hcz40_4 : w39.cell? ⟨gb266, 4, none⟩ = some (.bool a0_4) := (blk_cell BK266.out 4).trans rfl; have hcz40_5 : w39.cell? ⟨gb266, 5, none⟩ = some (.bool a0_5) := (blk_cell BK266.out 5).trans rfl; have hcz40_6 : w39.cell? ⟨gb266, 6, none⟩ = some (.int .i64 a0_6) := (blk_cell BK266.out 6).trans rfl; have hcz40_7 : w39.cell? ⟨gb266, 7, none⟩ = some (.int .i64 a0_7) := (blk_cell BK266.out 7).trans rfl; have hcz40_8 : w39.cell? ⟨gb266, 8, none⟩ = some (.int .i64 a0_8) := (blk_cell BK266.out 8).trans rfl; have hcz40_9 : w39.cell? ⟨gb266, 9, none⟩ = some (.int .i64 a0_9) := (blk_cell BK266.out 9).trans rfl; have hcz40_10 : w39.cell? ⟨gb266, 10, none⟩ = some (.int .i64 a0_10) := (blk_cell BK266.out 10).trans rfl; have hcz40_11 : w39.cell? ⟨gb266, 11, none⟩ = some (.int .i64 a0_11) := (blk_cell BK266.out 11).trans rfl; have hcz40_12 : w39.cell? ⟨gb266, 12, none⟩ = some (.string a0_12) := (blk_cell BK266.out 12).trans rfl; have hfz40_0 := blk_frozen BK266.out 0; have hfz40_1 := blk_frozen BK266.out 1; have hfz40_2 := blk_frozen BK266.out 2; have hfz40_3 := blk_frozen BK266.out 3; have hfz40_4 := blk_frozen BK266.out 4; have hfz40_5 := blk_frozen BK266.out 5; have hfz40_6 := blk_frozen BK266.out 6; have hfz40_7 := blk_frozen BK266.out 7; have hfz40_8 := blk_frozen BK266.out 8; have hfz40_9 := blk_frozen BK266.out 9; have hfz40_10 := blk_frozen BK266.out 10; have hfz40_11 := blk_frozen BK266.out 11; have hfz40_12 := blk_frozen BK266.out 12) | ((with_reducible refine gate_callee (f := 36) rfl ?_); refine goesL_ (some 26) rfl rfl Try.func36 (by kernel_rfl) rfl #[.pointer (some ⟨gb280, 0, none⟩), .int .i64 2, .int .i64 a0_1] rfl (by (try simp only [List.map_toArray, List.map_cons, List.map_nil]); first | done | rfl | (simp only [List.length_drop, List.length_take]; rfl)) ?_; (with_reducible refine (miradorref22_Writer_Int.calls k gb280 t281 t282 2 a0_1 t283 t284 w _ ?side1 ?side2 A27.out).mono ?_); (case side1 => repeat (first | (with_reducible first | exact HI280.out | apply IsS82.alloc | apply IsS82.drewN | apply IsS82.drew | apply IsS82.set_0 | apply IsS82.set_1 | refine IsS82.far ?_ NB280_266.out _) | exact HI280.out)); (case side2 => repeat (first | (with_reducible first | exact HB.out | apply below_alloc | apply pw_below_drewN | apply below_drew1 | refine below_set ?_ (IsS82.ge HI280.out) | refine below_set ?_ GE266.out) | exact HB.out)); rintro e w41 ⟨rfl, hi, hb, hk⟩; refine ⟨_, rfl, ?_⟩; have n0_ := Aside0.mk (KeepBut.blk hk (g' := gb266) (o := .cells #[.int .i64 a0_0, .int .i64 a0_1, .int .i64 a0_2, .int .i64 a0_3, .bool a0_4, .bool a0_5, .int .i64 a0_6, .int .i64 a0_7, .int .i64 a0_8, .int .i64 a0_9, .int .i64 a0_10, .int .i64 a0_11, .string a0_12] 42 (0, 0)) (by (with_reducible repeat (first | refine blk_drewN ?_ _ | refine blk_drew ?_ | refine blk_alloc ?_ _)); exact BK266.out) NB266_280.out (by simp)); have n1_ := Aside0.mk (hb); have n2_ := Aside0.mk (hi); clear BK266; clear HB; clear HI280; have BK266 := n0_; have HB := n1_; have HI280 := n2_; clear n0_ n1_ n2_; (try clear hb); (try clear hb2); (try clear hk); (try clear hi)))
    have n0_ := Aside0.mk (blk_drew BK266.out)
    have n1_ := Aside0.mk (IsS82.drew HI280.out)
    have n2_ := Aside0.mk (below_drew1 HB.out)
    clear BK266
    clear HI280
    clear HB
    have BK266 := n0_
    have HI280 := n1_
    have HB := n2_
    clear n0_ n1_ n2_
    refine start_ (n := 12) (S := fun w' => w'.cell? ⟨gb280, 0, none⟩ = some (.string t283) ∧ w'.cell? ⟨gb280, 1, none⟩ = some (.bool t284) ∧ w'.cell? ⟨gb266, 0, none⟩ = some (.int .i64 a0_0) ∧ w'.cell? ⟨gb266, 1, none⟩ = some (.int .i64 a0_1) ∧ w'.cell? ⟨gb266, 2, none⟩ = some (.int .i64 a0_2) ∧ w'.cell? ⟨gb266, 3, none⟩ = some (.int .i64 a0_3) ∧ w'.cell? ⟨gb266, 4, none⟩ = some (.bool a0_4) ∧ w'.cell? ⟨gb266, 5, none⟩ = some (.bool a0_5) ∧ w'.cell? ⟨gb266, 6, none⟩ = some (.int .i64 a0_6) ∧ w'.cell? ⟨gb266, 7, none⟩ = some (.int .i64 a0_7) ∧ w'.cell? ⟨gb266, 8, none⟩ = some (.int .i64 a0_8) ∧ w'.cell? ⟨gb266, 9, none⟩ = some (.int .i64 a0_9) ∧ w'.cell? ⟨gb266, 10, none⟩ = some (.int .i64 a0_10) ∧ w'.cell? ⟨gb266, 11, none⟩ = some (.int .i64 a0_11) ∧ w'.cell? ⟨gb266, 12, none⟩ = some (.string a0_12)) (ds := [11]) #[false, false, false, false, false, false, false, false, false, false, false, false] (by kernel_rfl) rfl rfl ⟨(blk_cell (Aside0.mk (show IsS82 w _ gb280 t283 t284 from by repeat (first | (with_reducible first | exact HI280.out | apply IsS82.alloc | apply IsS82.drewN | apply IsS82.drew | apply IsS82.set_0 | apply IsS82.set_1 | refine IsS82.far ?_ NB280_266.out _) | exact HI280.out)).1).out 0).trans rfl, (blk_cell (Aside0.mk (show IsS82 w _ gb280 t283 t284 from by repeat (first | (with_reducible first | exact HI280.out | apply IsS82.alloc | apply IsS82.drewN | apply IsS82.drew | apply IsS82.set_0 | apply IsS82.set_1 | refine IsS82.far ?_ NB280_266.out _) | exact HI280.out)).1).out 1).trans rfl, (blk_cell BK266.out 0).trans rfl, (blk_cell BK266.out 1).trans rfl, (blk_cell BK266.out 2).trans rfl, (blk_cell BK266.out 3).trans rfl, (blk_cell BK266.out 4).trans rfl, (blk_cell BK266.out 5).trans rfl, (blk_cell BK266.out 6).trans rfl, (blk_cell BK266.out 7).trans rfl, (blk_cell BK266.out 8).trans rfl, (blk_cell BK266.out 9).trans rfl, (blk_cell BK266.out 10).trans rfl, (blk_cell BK266.out 11).trans rfl, (blk_cell BK266.out 12).trans rfl⟩ (fun hHeld => ?_); refine with_tabW miradorref23_Bytes.tab6 miradorref23_Bytes.bits6 (fun HT_ HW_ => ?_)
    generalize w41.drew = w42 at BK266 HI280 HB hHeld ⊢
    refine pure_ (i := 0) (N := some 27) (v := ?_) (a' := ?_) #[true, false, false, false, false, false, false, false, false, false, false, false] rfl rfl (any_of HT_.out (by kernel_rfl)) (fun _ _ _ h => h) (Or.inl ⟨by rfl, ?_⟩) ?_ ?_
    rotate_left
    ·intro w'
     go_simp
     with_reducible rfl
    rotate_left
    ·simp only [Act.put, List.setIfInBounds_toArray, List.set_cons_zero, List.set_cons_succ, i64_w, i32_w]
     rfl
    refine pure_ (i := 1) (N := some 28) (v := ?_) (a' := ?_) #[true, true, false, false, false, false, false, false, false, false, false, false] rfl rfl (any_of HT_.out (by kernel_rfl)) (fun _ _ _ h => h) (Or.inl ⟨by rfl, ?_⟩) ?_ ?_
    rotate_left
    ·intro w'
     go_simp
     with_reducible rfl
    rotate_left
    ·simp only [Act.put, List.setIfInBounds_toArray, List.set_cons_zero, List.set_cons_succ, i64_w, i32_w]
     rfl
    refine pure_ (i := 2) (N := some 29) (v := ?_) (a' := ?_) #[true, true, true, false, false, false, false, false, false, false, false, false] rfl rfl (any_of HT_.out (by kernel_rfl)) (fun _ _ _ h => h) (Or.inl ⟨by rfl, ?_⟩) ?_ ?_
    rotate_left
    ·intro w'
     go_simp
     with_reducible rfl
    rotate_left
    ·simp only [Act.put, List.setIfInBounds_toArray, List.set_cons_zero, List.set_cons_succ, i64_w, i32_w]
     rfl
    refine pure_ (i := 3) (N := some 30) (v := ?_) (a' := ?_) #[true, true, true, true, false, false, false, false, false, false, false, false] rfl rfl (any_of HT_.out (by kernel_rfl)) (fun _ _ _ h => h) (Or.inl ⟨by rfl, ?_⟩) ?_ ?_
    rotate_left
    ·intro w'
     go_simp
     with_reducible rfl
    rotate_left
    ·simp only [Act.put, List.setIfInBounds_toArray, List.set_cons_zero, List.set_cons_succ, i64_w, i32_w]
     rfl
    refine pure_ (i := 5) (N := some 32) (v := ?_) (a' := ?_) #[true, true, true, true, false, true, false, false, false, false, false, false] rfl rfl (any_of HT_.out (by kernel_rfl)) (fun _ _ _ h => h) (Or.inl ⟨by rfl, ?_⟩) ?_ ?_
    rotate_left
    ·intro w'
     go_simp
     with_reducible rfl
    rotate_left
    ·simp only [Act.put, List.setIfInBounds_toArray, List.set_cons_zero, List.set_cons_succ, i64_w, i32_w]
     rfl
    refine take_ (i := 4) (N := some 31) (v := ?_) (a' := ?_) #[true, true, true, true, true, true, false, false, false, false, false, false] rfl rfl (take_ofW HT_.out HW_.out (by kernel_rfl)) (fun _ _ _ h => h) (Or.inl ⟨by rfl, ?_⟩) hHeld ?_ ?_
    rotate_left
    ·rintro w' ⟨s0, s1, s2, s3, s4, s5, s6, s7, s8, s9, s10, s11, s12, s13, s14⟩
     go_simp
     with_reducible rfl
    rotate_left
    ·simp only [Act.put, List.setIfInBounds_toArray, List.set_cons_zero, List.set_cons_succ, i64_w, i32_w]
     rfl
    refine take_ (i := 6) (N := some 33) (v := ?_) (a' := ?_) #[true, true, true, true, true, true, true, false, false, false, false, false] rfl rfl (take_ofW HT_.out HW_.out (by kernel_rfl)) (fun _ _ _ h => h) (Or.inl ⟨by rfl, ?_⟩) hHeld ?_ ?_
    rotate_left
    ·rintro w' ⟨s0, s1, s2, s3, s4, s5, s6, s7, s8, s9, s10, s11, s12, s13, s14⟩
     go_simp
     with_reducible rfl
    rotate_left
    ·simp only [Act.put, List.setIfInBounds_toArray, List.set_cons_zero, List.set_cons_succ, i64_w, i32_w]
     rfl
    refine one_ (i := 7) (N := some 34) #[true, true, true, true, true, true, true, true, false, false, false, false] rfl rfl (one_of HT_.out (by kernel_rfl)) (by decide) (fun K hK => ?_)
    refine goes_ Try.func43 (by kernel_rfl) rfl #[.agg #[.int .i64 a0_2, .int .i64 a0_3, .bool a0_4, .bool a0_5, .int .i64 a0_6, .int .i64 a0_7, .int .i64 a0_8, .int .i64 a0_9, .int .i64 a0_10, .int .i64 a0_11]] (by rfl) rfl rfl (by (try simp only [List.map_toArray, List.map_cons, List.map_nil]); first | done | rfl | (simp only [List.length_drop, List.length_take]; rfl)) ?_
    with_reducible refine (miradorref13_Bytes.calls k a0_2 a0_3 a0_4 a0_5 a0_6 a0_7 a0_8 a0_9 a0_10 a0_11 t285 _ A28.out).mono ?_
    rintro e w43 ⟨rfl, hb⟩
    refine ⟨_, rfl, ?_⟩
    have n0_ := Aside0.mk (blk_below (g := gb266) (o := .cells #[.int .i64 a0_0, .int .i64 a0_1, .int .i64 a0_2, .int .i64 a0_3, .bool a0_4, .bool a0_5, .int .i64 a0_6, .int .i64 a0_7, .int .i64 a0_8, .int .i64 a0_9, .int .i64 a0_10, .int .i64 a0_11, .string a0_12] 42 (0, 0)) (by (with_reducible repeat (first | refine blk_drewN ?_ _ | refine blk_drew ?_ | refine blk_alloc ?_ _)); exact BK266.out) hb)
    have n1_ := Aside0.mk (IsS82.below (by repeat (first | (with_reducible first | exact HI280.out | apply IsS82.alloc | apply IsS82.drewN | apply IsS82.drew | apply IsS82.set_0 | apply IsS82.set_1 | refine IsS82.far ?_ NB280_266.out _) | exact HI280.out)) hb)
    have n2_ := Aside0.mk (below_step (by repeat (first | (with_reducible first | exact HB.out | apply below_alloc | apply pw_below_drewN | apply below_drew1 | refine below_set ?_ (IsS82.ge HI280.out) | refine below_set ?_ GE266.out) | exact HB.out)) hb)
    clear BK266
    clear HI280
    clear HB
    have BK266 := n0_
    have HI280 := n1_
    have HB := n2_
    clear n0_ n1_ n2_
    (try clear hb)
    (try clear hb2)
    (try clear hk)
    (try clear hi)
    refine hK.out _ _ ⟨(blk_cell (Aside0.mk (show IsS82 w _ gb280 t283 t284 from by repeat (first | (with_reducible first | exact HI280.out | apply IsS82.alloc | apply IsS82.drewN | apply IsS82.drew | apply IsS82.set_0 | apply IsS82.set_1 | refine IsS82.far ?_ NB280_266.out _) | exact HI280.out)).1).out 0).trans rfl, (blk_cell (Aside0.mk (show IsS82 w _ gb280 t283 t284 from by repeat (first | (with_reducible first | exact HI280.out | apply IsS82.alloc | apply IsS82.drewN | apply IsS82.drew | apply IsS82.set_0 | apply IsS82.set_1 | refine IsS82.far ?_ NB280_266.out _) | exact HI280.out)).1).out 1).trans rfl, (blk_cell BK266.out 0).trans rfl, (blk_cell BK266.out 1).trans rfl, (blk_cell BK266.out 2).trans rfl, (blk_cell BK266.out 3).trans rfl, (blk_cell BK266.out 4).trans rfl, (blk_cell BK266.out 5).trans rfl, (blk_cell BK266.out 6).trans rfl, (blk_cell BK266.out 7).trans rfl, (blk_cell BK266.out 8).trans rfl, (blk_cell BK266.out 9).trans rfl, (blk_cell BK266.out 10).trans rfl, (blk_cell BK266.out 11).trans rfl, (blk_cell BK266.out 12).trans rfl⟩ (fun hHeld => ?_)
    clear hK K
    refine norm_ (a' := ?_) ?_ ?_
    rotate_left
    ·show Act.put _ (some 34) _ = _
     simp only [Act.put, List.setIfInBounds_toArray, List.set_cons_zero, List.set_cons_succ, i64_w, i32_w]
     rfl
    refine pure_ (i := 8) (N := some 35) (v := ?_) (a' := ?_) #[true, true, true, true, true, true, true, true, true, false, false, false] rfl rfl (any_of HT_.out (by kernel_rfl)) (fun _ _ _ h => h) (Or.inl ⟨by rfl, ?_⟩) ?_ ?_
    rotate_left
    ·intro w'
     go_simp
     with_reducible rfl
    rotate_left
    ·simp only [Act.put, List.setIfInBounds_toArray, List.set_cons_zero, List.set_cons_succ, i64_w, i32_w]
     rfl
    refine pure_ (i := 9) (N := some 36) (v := ?_) (a' := ?_) #[true, true, true, true, true, true, true, true, true, true, false, false] rfl rfl (any_of HT_.out (by kernel_rfl)) (fun _ _ _ h => h) (Or.inl ⟨by rfl, ?_⟩) ?_ ?_
    rotate_left
    ·intro w'
     go_simp
     with_reducible rfl
    rotate_left
    ·simp only [Act.put, List.setIfInBounds_toArray, List.set_cons_zero, List.set_cons_succ, i64_w, i32_w]
     rfl
    refine pure_ (i := 10) (N := some 37) (v := ?_) (a' := ?_) #[true, true, true, true, true, true, true, true, true, true, true, false] rfl rfl (any_of HT_.out (by kernel_rfl)) (fun _ _ _ h => h) (Or.inl ⟨by rfl, ?_⟩) ?_ ?_
    rotate_left
    ·intro w'
     go_simp
     with_reducible rfl
    rotate_left
    ·simp only [Act.put, List.setIfInBounds_toArray, List.set_cons_zero, List.set_cons_succ, i64_w, i32_w]
     rfl
    refine last_ (i := 11) (N := none) #[true, true, true, true, true, true, true, true, true, true, true, true] rfl rfl (one_of HT_.out (by kernel_rfl)) (by decide) (fun K hK => ?_)
    have hfs280_0_ := (show World.frozen? _ ⟨gb280, 0, none⟩ = false from (blk_frozen (Aside0.mk (show IsS82 w _ gb280 t283 t284 from by repeat (first | (with_reducible first | exact HI280.out | apply IsS82.alloc | apply IsS82.drewN | apply IsS82.drew | apply IsS82.set_0 | apply IsS82.set_1 | refine IsS82.far ?_ NB280_266.out _) | exact HI280.out)).1).out 0).trans rfl)
    have hfs280_1_ := (show World.frozen? _ ⟨gb280, 1, none⟩ = false from (blk_frozen (Aside0.mk (show IsS82 w _ gb280 t283 t284 from by repeat (first | (with_reducible first | exact HI280.out | apply IsS82.alloc | apply IsS82.drewN | apply IsS82.drew | apply IsS82.set_0 | apply IsS82.set_1 | refine IsS82.far ?_ NB280_266.out _) | exact HI280.out)).1).out 1).trans rfl)
    refine skip_ (w1 := ?_) (by rfl) rfl ?_ ?_
    rotate_left
    ·go_simp
     rfl
    refine hK.out _ _ ?_
    clear hK K
    refine done_ (done_of HT_.out (by kernel_rfl)) ?_
    have hcz44_0 : w43.cell? ⟨gb266, 0, none⟩ = some (.int .i64 a0_0) := (blk_cell BK266.out 0).trans rfl
    have hcz44_1 : w43.cell? ⟨gb266, 1, none⟩ = some (.int .i64 a0_1) := (blk_cell BK266.out 1).trans rfl
    have hcz44_2 : w43.cell? ⟨gb266, 2, none⟩ = some (.int .i64 a0_2) := (blk_cell BK266.out 2).trans rfl
    have hcz44_3 : w43.cell? ⟨gb266, 3, none⟩ = some (.int .i64 a0_3) := (blk_cell BK266.out 3).trans rfl
    have hcz44_4 : w43.cell? ⟨gb266, 4, none⟩ = some (.bool a0_4) := (blk_cell BK266.out 4).trans rfl
    have hcz44_5 : w43.cell? ⟨gb266, 5, none⟩ = some (.bool a0_5) := (blk_cell BK266.out 5).trans rfl
    have hcz44_6 : w43.cell? ⟨gb266, 6, none⟩ = some (.int .i64 a0_6) := (blk_cell BK266.out 6).trans rfl
    have hcz44_7 : w43.cell? ⟨gb266, 7, none⟩ = some (.int .i64 a0_7) := (blk_cell BK266.out 7).trans rfl
    have hcz44_8 : w43.cell? ⟨gb266, 8, none⟩ = some (.int .i64 a0_8) := (blk_cell BK266.out 8).trans rfl
    have hcz44_9 : w43.cell? ⟨gb266, 9, none⟩ = some (.int .i64 a0_9) := (blk_cell BK266.out 9).trans rfl
    have hcz44_10 : w43.cell? ⟨gb266, 10, none⟩ = some (.int .i64 a0_10) := (blk_cell BK266.out 10).trans rfl
    have hcz44_11 : w43.cell? ⟨gb266, 11, none⟩ = some (.int .i64 a0_11) := (blk_cell BK266.out 11).trans rfl
    have hcz44_12 : w43.cell? ⟨gb266, 12, none⟩ = some (.string a0_12) := (blk_cell BK266.out 12).trans rfl
    have hfz44_0 := blk_frozen BK266.out 0
    have hfz44_1 := blk_frozen BK266.out 1
    have hfz44_2 := blk_frozen BK266.out 2
    have hfz44_3 := blk_frozen BK266.out 3
    have hfz44_4 := blk_frozen BK266.out 4
    have hfz44_5 := blk_frozen BK266.out 5
    have hfz44_6 := blk_frozen BK266.out 6
    have hfz44_7 := blk_frozen BK266.out 7
    have hfz44_8 := blk_frozen BK266.out 8
    have hfz44_9 := blk_frozen BK266.out 9
    have hfz44_10 := blk_frozen BK266.out 10
    have hfz44_11 := blk_frozen BK266.out 11
    have hfz44_12 := blk_frozen BK266.out 12
    try go_wp2_with (first | ((with_reducible refine gate_callee (f := 44) rfl ?_); refine goesL_ (some 41) rfl rfl Try.func44 (by kernel_rfl) rfl #[.pointer (some ⟨gb280, 0, none⟩), .string a0_12] rfl (by (try simp only [List.map_toArray, List.map_cons, List.map_nil]); first | done | rfl | (simp only [List.length_drop, List.length_take]; rfl)) ?_; (with_reducible refine (miradorref23_long.calls k gb280 (t283 ++ t285) t284 a0_12 t286 t287 w _ ?side1 ?side2 A30.out).mono ?_); (case side1 => repeat (first | (with_reducible first | exact HI280.out | apply IsS82.alloc | apply IsS82.drewN | apply IsS82.drew | apply IsS82.set_0 | apply IsS82.set_1 | refine IsS82.far ?_ NB280_266.out _) | exact HI280.out)); (case side2 => repeat (first | (with_reducible first | exact HB.out | apply below_alloc | apply pw_below_drewN | apply below_drew1 | refine below_set ?_ (IsS82.ge HI280.out) | refine below_set ?_ GE266.out) | exact HB.out)); rintro e w45 ⟨rfl, hi, hb, hk⟩; refine ⟨_, rfl, ?_⟩; have n0_ := Aside0.mk (KeepBut.blk hk (g' := gb266) (o := .cells #[.int .i64 a0_0, .int .i64 a0_1, .int .i64 a0_2, .int .i64 a0_3, .bool a0_4, .bool a0_5, .int .i64 a0_6, .int .i64 a0_7, .int .i64 a0_8, .int .i64 a0_9, .int .i64 a0_10, .int .i64 a0_11, .string a0_12] 42 (0, 0)) (by (with_reducible repeat (first | refine blk_drewN ?_ _ | refine blk_drew ?_ | refine blk_alloc ?_ _)); refine blk_far ?_ NB266_280.out _; (with_reducible repeat (first | refine blk_drewN ?_ _ | refine blk_drew ?_ | refine blk_alloc ?_ _)); exact BK266.out) NB266_280.out (by simp)); have n1_ := Aside0.mk (hb); have n2_ := Aside0.mk (hi); clear BK266; clear HB; clear HI280; have BK266 := n0_; have HB := n1_; have HI280 := n2_; clear n0_ n1_ n2_; (try clear hb); (try clear hb2); (try clear hk); (try clear hi)) | ((with_reducible refine gate_callee (f := 37) rfl ?_); refine goesL_ (some 43) rfl rfl Try.func37 (by kernel_rfl) rfl #[.pointer (some ⟨gb280, 0, none⟩)] rfl (by (try simp only [List.map_toArray, List.map_cons, List.map_nil]); first | done | rfl | (simp only [List.length_drop, List.length_take]; rfl)) ?_; (with_reducible refine (miradorref23_done.calls gb280 t286 t287 t288 t289 t290 t291 w _ ?side1 ?side2 A31.out).mono ?_); (case side1 => repeat (first | (with_reducible first | exact HI280.out | apply IsS82.alloc | apply IsS82.drewN | apply IsS82.drew | apply IsS82.set_0 | apply IsS82.set_1 | refine IsS82.far ?_ NB280_266.out _) | exact HI280.out)); (case side2 => repeat (first | (with_reducible first | exact HB.out | apply below_alloc | apply pw_below_drewN | apply below_drew1 | refine below_set ?_ (IsS82.ge HI280.out) | refine below_set ?_ GE266.out) | exact HB.out)); rintro e w46 ⟨rfl, hi, hb, hk⟩; refine ⟨_, rfl, ?_⟩; have n0_ := Aside0.mk (KeepBut.blk hk (g' := gb266) (o := .cells #[.int .i64 a0_0, .int .i64 a0_1, .int .i64 a0_2, .int .i64 a0_3, .bool a0_4, .bool a0_5, .int .i64 a0_6, .int .i64 a0_7, .int .i64 a0_8, .int .i64 a0_9, .int .i64 a0_10, .int .i64 a0_11, .string a0_12] 42 (0, 0)) (by (with_reducible repeat (first | refine blk_drewN ?_ _ | refine blk_drew ?_ | refine blk_alloc ?_ _)); exact BK266.out) NB266_280.out (by simp)); have n1_ := Aside0.mk (hb); have n2_ := Aside0.mk (hi); clear BK266; clear HB; clear HI280; have BK266 := n0_; have HB := n1_; have HI280 := n2_; clear n0_ n1_ n2_; (try clear hb); (try clear hb2); (try clear hk); (try clear hi)))
    go_ret2
    exact ⟨by first | rfl | (simp [errW_none, errW_some] <;> rfl) | (simp [*, errW_none, errW_some] <;> rfl), by repeat (first | (with_reducible first | exact HB.out | apply below_alloc | apply pw_below_drewN | apply below_drew1 | refine below_set ?_ (IsS82.ge HI280.out) | refine below_set ?_ GE266.out) | exact HB.out)⟩
   ·rw [if_neg c29] at H
    exact absurd H (by simp)
 ·replace c3 := Bool.eq_false_iff.mpr c3
  subst c3
  have H1 : (some ((⟨#[]⟩ : ByteArray), 130)) = some (r1, r2) := by rw [if_neg (show ¬ (false = true) by decide)] at H; exact H
  clear H
  have H := H1
  clear H1
  simp only [Option.some.injEq, Prod.mk.injEq] at H
  obtain ⟨rfl, rfl⟩ := H
  go_enter Try.func12, Try.ntmps12
  go_wp2_with (first | ((with_reducible refine gate_dst (N := 1) rfl ?_); refine box_event ?hg (N := 1) ?hd (cs := #[.int .i64 a0_0, .int .i64 a0_1, .int .i64 a0_2, .int .i64 a0_3, .bool a0_4, .bool a0_5, .int .i64 a0_6, .int .i64 a0_7, .int .i64 a0_8, .int .i64 a0_9, .int .i64 a0_10, .int .i64 a0_11, .string a0_12]) (t := 42) ?hr ?_; (case hd => rfl); (case hg => rfl); (case hr => first | (go_simp; done) | (go_simp; rfl)); intro gb266 hg w47 hbox hb; have n0_ := Aside0.mk (below_step (by repeat (first | (with_reducible first | exact HB.out | apply below_alloc | apply pw_below_drewN | apply below_drew1) | exact HB.out)) hb); have n1_ := Aside0.mk (hbox); have n2_ := Aside0.mk ((by rw [hg]; exact (below_size (by repeat (first | (with_reducible first | exact HB.out | apply below_alloc | apply pw_below_drewN | apply below_drew1) | exact HB.out))) : w.heap.size ≤ gb266)); have n3_ := Aside0.mk ((by rw [hg]; exact (below_size (by repeat (first | (with_reducible first | exact HB.out | apply below_alloc | apply pw_below_drewN | apply below_drew1) | exact HB.out))) : w.heap.size ≤ gb266)); clear HB; have HB := n0_; have BK266 := n1_; have GW266 := n2_; have GE266 := n3_; clear n0_ n1_ n2_ n3_; clear hb hbox hg; have hcz48_0 : w47.cell? ⟨gb266, 0, none⟩ = some (.int .i64 a0_0) := (blk_cell BK266.out 0).trans rfl; have hcz48_1 : w47.cell? ⟨gb266, 1, none⟩ = some (.int .i64 a0_1) := (blk_cell BK266.out 1).trans rfl; have hcz48_2 : w47.cell? ⟨gb266, 2, none⟩ = some (.int .i64 a0_2) := (blk_cell BK266.out 2).trans rfl; have hcz48_3 : w47.cell? ⟨gb266, 3, none⟩ = some (.int .i64 a0_3) := (blk_cell BK266.out 3).trans rfl; have hcz48_4 : w47.cell? ⟨gb266, 4, none⟩ = some (.bool a0_4) := (blk_cell BK266.out 4).trans rfl; have hcz48_5 : w47.cell? ⟨gb266, 5, none⟩ = some (.bool a0_5) := (blk_cell BK266.out 5).trans rfl; have hcz48_6 : w47.cell? ⟨gb266, 6, none⟩ = some (.int .i64 a0_6) := (blk_cell BK266.out 6).trans rfl; have hcz48_7 : w47.cell? ⟨gb266, 7, none⟩ = some (.int .i64 a0_7) := (blk_cell BK266.out 7).trans rfl; have hcz48_8 : w47.cell? ⟨gb266, 8, none⟩ = some (.int .i64 a0_8) := (blk_cell BK266.out 8).trans rfl; have hcz48_9 : w47.cell? ⟨gb266, 9, none⟩ = some (.int .i64 a0_9) := (blk_cell BK266.out 9).trans rfl; have hcz48_10 : w47.cell? ⟨gb266, 10, none⟩ = some (.int .i64 a0_10) := (blk_cell BK266.out 10).trans rfl; have hcz48_11 : w47.cell? ⟨gb266, 11, none⟩ = some (.int .i64 a0_11) := (blk_cell BK266.out 11).trans rfl; have hcz48_12 : w47.cell? ⟨gb266, 12, none⟩ = some (.string a0_12) := (blk_cell BK266.out 12).trans rfl; have hfz48_0 := blk_frozen BK266.out 0; have hfz48_1 := blk_frozen BK266.out 1; have hfz48_2 := blk_frozen BK266.out 2; have hfz48_3 := blk_frozen BK266.out 3; have hfz48_4 := blk_frozen BK266.out 4; have hfz48_5 := blk_frozen BK266.out 5; have hfz48_6 := blk_frozen BK266.out 6; have hfz48_7 := blk_frozen BK266.out 7; have hfz48_8 := blk_frozen BK266.out 8; have hfz48_9 := blk_frozen BK266.out 9; have hfz48_10 := blk_frozen BK266.out 10; have hfz48_11 := blk_frozen BK266.out 11; have hfz48_12 := blk_frozen BK266.out 12) | ((with_reducible refine gate_callee (f := 42) rfl ?_); refine goesL_ (some 7) rfl rfl Try.func42 (by kernel_rfl) rfl #[.agg #[.int .i64 a0_2, .int .i64 a0_3, .bool a0_4, .bool a0_5, .int .i64 a0_6, .int .i64 a0_7, .int .i64 a0_8, .int .i64 a0_9, .int .i64 a0_10, .int .i64 a0_11]] rfl (by (try simp only [List.map_toArray, List.map_cons, List.map_nil]); first | done | rfl | (simp only [List.length_drop, List.length_take]; rfl)) ?_; (with_reducible refine (miradorref13_Valid.calls k a0_2 a0_3 a0_4 a0_5 a0_6 a0_7 a0_8 a0_9 a0_10 a0_11 false _ A2.out).mono ?_); rintro e w49 ⟨rfl, hb⟩; refine ⟨_, rfl, ?_⟩; have n0_ := Aside0.mk (blk_below (g := gb266) (o := .cells #[.int .i64 a0_0, .int .i64 a0_1, .int .i64 a0_2, .int .i64 a0_3, .bool a0_4, .bool a0_5, .int .i64 a0_6, .int .i64 a0_7, .int .i64 a0_8, .int .i64 a0_9, .int .i64 a0_10, .int .i64 a0_11, .string a0_12] 42 (0, 0)) (by (with_reducible repeat (first | refine blk_drewN ?_ _ | refine blk_drew ?_ | refine blk_alloc ?_ _)); exact BK266.out) hb); have n1_ := Aside0.mk (below_step (by repeat (first | (with_reducible first | exact HB.out | apply below_alloc | apply pw_below_drewN | apply below_drew1 | refine below_set ?_ GE266.out) | exact HB.out)) hb); clear BK266; clear HB; have BK266 := n0_; have HB := n1_; clear n0_ n1_; (try clear hb); (try clear hb2); (try clear hk); (try clear hi)))
  go_ret2
  exact ⟨by first | rfl | (simp [errW_none, errW_some] <;> rfl) | (simp [*, errW_none, errW_some] <;> rfl), by repeat (first | (with_reducible first | exact HB.out | apply below_alloc | apply pw_below_drewN | apply below_drew1 | refine below_set ?_ GE266.out) | exact HB.out)⟩

end Go.Proofs.Ytpackckoblpbfaa.X
