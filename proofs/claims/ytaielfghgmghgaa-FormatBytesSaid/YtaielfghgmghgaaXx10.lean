/- What each Go function that these laws use answers: as a Lean function, with the proof that the machine's call comes to it. Written by a program of this session (xprint.py). -/
import Derived.Test.YtaielfghgmghgaaXx0
import Derived.Test.YtaielfghgmghgaaXx1
import Derived.Test.YtaielfghgmghgaaXx2
import Derived.Test.YtaielfghgmghgaaXx3
import Derived.Test.YtaielfghgmghgaaXx4
import Derived.Test.YtaielfghgmghgaaXx5
import Derived.Test.YtaielfghgmghgaaXx6
import Derived.Test.YtaielfghgmghgaaXx8
import Derived.Test.YtaielfghgmghgaaXx9
namespace Go.Proofs.Ytaielfghgmghgaa.X
open Go.RowKit Go.Proofs.YtaielfghgmghgaaW.PrintWords Go.Proofs.YtaielfghgmghgaaW.PrintLast Go.Proofs.YtaielfghgmghgaaW.PrintMore
attribute [local go_sem] max2_int min2_int max_two min_two max_three min_three max_four min_four   -- for this text's walks alone
set_option linter.unusedVariables false
set_option linter.unusedSimpArgs false

attribute [local go_sem high] eqA23
/-! ### miradorlaw13_FormatBytes: function 3 -/
def miradorlaw13_FormatBytes.f (k : Nat) (a0_0 : Int) (a0_1 : Int) (a0_2 : Bool) (a0_3 : Bool) (a0_4 : Int) (a0_5 : Int) (a0_6 : Int) (a0_7 : Int) (a0_8 : Int) (a0_9 : Int) (a1 : ByteArray) : Option (Bool) := (miradorlaw13_works.f).bind fun t262 => (if t262 = true then (if (a1.size : Int) > 60 then (some t262) else ((format_Parse.f a1).bind fun bt263 => ((miradorref13_Parse.f k a1).bind fun bt275 => ((format_Valid.f a0_0 a0_1 a0_2 a0_3 a0_4 a0_5 a0_6 a0_7 a0_8 a0_9).bind fun t287 => ((miradorref13_Valid.f k a0_0 a0_1 a0_2 a0_3 a0_4 a0_5 a0_6 a0_7 a0_8 a0_9).bind fun t288 => (if (t287 == t288) = true then ((format_Bytes.f a0_0 a0_1 a0_2 a0_3 a0_4 a0_5 a0_6 a0_7 a0_8 a0_9).bind fun t289 => ((miradorref13_Bytes.f k a0_0 a0_1 a0_2 a0_3 a0_4 a0_5 a0_6 a0_7 a0_8 a0_9).bind fun t290 => (if t289.toList = t290.toList then (if (bt263.1 == bt275.1 && (bt263.2.1 == bt275.2.1 && (bt263.2.2.1 == bt275.2.2.1 && (bt263.2.2.2.1 == bt275.2.2.2.1 && (bt263.2.2.2.2.1 == bt275.2.2.2.2.1 && (bt263.2.2.2.2.2.1 == bt275.2.2.2.2.2.1 && (bt263.2.2.2.2.2.2.1 == bt275.2.2.2.2.2.2.1 && (bt263.2.2.2.2.2.2.2.1 == bt275.2.2.2.2.2.2.2.1 && (bt263.2.2.2.2.2.2.2.2.1 == bt275.2.2.2.2.2.2.2.2.1 && (bt263.2.2.2.2.2.2.2.2.2.1 == bt275.2.2.2.2.2.2.2.2.2.1)))))))))) = true then (if bt263.2.2.2.2.2.2.2.2.2.2 = bt275.2.2.2.2.2.2.2.2.2.2 then ((format_Standard.f).bind fun bt291 => ((miradorref13_Standard.f).bind fun bt301 => (some (bt291.1 == bt301.1 && (bt291.2.1 == bt301.2.1 && (bt291.2.2.1 == bt301.2.2.1 && (bt291.2.2.2.1 == bt301.2.2.2.1 && (bt291.2.2.2.2.1 == bt301.2.2.2.2.1 && (bt291.2.2.2.2.2.1 == bt301.2.2.2.2.2.1 && (bt291.2.2.2.2.2.2.1 == bt301.2.2.2.2.2.2.1 && (bt291.2.2.2.2.2.2.2.1 == bt301.2.2.2.2.2.2.2.1 && (bt291.2.2.2.2.2.2.2.2.1 == bt301.2.2.2.2.2.2.2.2.1 && (bt291.2.2.2.2.2.2.2.2.2 == bt301.2.2.2.2.2.2.2.2.2))))))))))))) else (some false)) else (some false)) else (some false)))) else (some false))))))) else (some false))
theorem miradorlaw13_FormatBytes.mono : ∀ a0 a1 a2 a3 a4 a5 a6 a7 a8 a9 a10 k, LeO (miradorlaw13_FormatBytes.f k a0 a1 a2 a3 a4 a5 a6 a7 a8 a9 a10) (miradorlaw13_FormatBytes.f (k + 1) a0 a1 a2 a3 a4 a5 a6 a7 a8 a9 a10) := by
  intro a0 a1 a2 a3 a4 a5 a6 a7 a8 a9 a10 k
  unfold miradorlaw13_FormatBytes.f
  repeat' first
      | (with_reducible exact miradorref13_Bytes.mono _ _ _ _ _ _ _ _ _ _ _)
      | (with_reducible exact miradorref13_Parse.mono _ _)
      | (with_reducible exact miradorref13_Valid.mono _ _ _ _ _ _ _ _ _ _ _)
      | (with_reducible exact LeO.refl _)
      | (with_reducible exact LeO.none _)
      | (with_reducible refine LeO.ite ?_ ?_)
      | (with_reducible refine LeO.bind ?_ (fun _ => ?_))
      | exact miradorref13_Bytes.mono _ _ _ _ _ _ _ _ _ _ _
      | exact miradorref13_Parse.mono _ _
      | exact miradorref13_Valid.mono _ _ _ _ _ _ _ _ _ _ _
      | exact LeO.none _
      | refine LeO.ite ?_ ?_
      | refine LeO.bind ?_ (fun _ => ?_)
def miradorlaw13_FormatBytes.T8 : Bool × List (List Nat × List Nat) := (true, [([], []), ([0], [0]), ([1], [1]), ([2, 1, 1], [1, 2]), ([1], [1]), ([4, 3, 1], [1, 4]), ([3, 5, 1], [1, 3, 5]), ([1, 6], [1, 6]), ([7, 5], [7]), ([8], [8]), ([9, 8, 8], [8, 9]), ([8], [8]), ([11, 10, 8], [8, 11]), ([10, 12, 8], [8, 10, 12]), ([8, 13], [8, 13]), ([14, 12], [14]), ([15], [15]), ([15], [15]), ([16, 17, 15], [15, 16, 17]), ([15, 18], [15, 18]), ([19, 15], [19]), ([20], [20]), ([20], [20]), ([21, 22, 20], [20, 21, 22]), ([20, 23], [20, 23]), ([24, 20], [24]), ([25, 25], [25]), ([26, 25], [25]), ([26, 27, 25], [25, 26, 27]), ([25, 28], [25, 28]), ([29, 27, 0, 1, 2, 3, 4, 5, 6, 7, 8, 9, 10, 11, 12, 13, 14, 15, 16, 17, 18, 19, 20, 21, 22, 23, 24, 25, 26, 27, 28, 29], [29])])
def miradorlaw13_FormatBytes.B8 : List Nat := [0, 1, 3, 7, 3, 31, 63, 127, 255, 511, 1023, 511, 4095, 8191, 16383, 32767, 65535, 65535, 262143, 524287, 1048575, 2097151, 2097151, 8388607, 16777215, 33554431, 67108863, 134217727, 268435455, 536870911, 1073741823]
theorem miradorlaw13_FormatBytes.tab8 : rtab .any (opsOf Try.f3 8) = miradorlaw13_FormatBytes.T8 := by kernel_rfl
theorem miradorlaw13_FormatBytes.bits8 : waitsOk miradorlaw13_FormatBytes.T8.2 miradorlaw13_FormatBytes.B8 = true := by kernel_rfl
set_option maxHeartbeats 8000000 in
set_option maxRecDepth 100000 in
theorem miradorlaw13_FormatBytes.calls1 (k : Nat) (a0_0 : Int) (a0_1 : Int) (a0_2 : Bool) (a0_3 : Bool) (a0_4 : Int) (a0_5 : Int) (a0_6 : Int) (a0_7 : Int) (a0_8 : Int) (a0_9 : Int) (a1 : ByteArray) (r : Bool) (w : World) (hr_ : r = true) (h : miradorlaw13_FormatBytes.f k a0_0 a0_1 a0_2 a0_3 a0_4 a0_5 a0_6 a0_7 a0_8 a0_9 a1 = some r) :
    Calls Try.prog 3 #[.agg #[.int .i64 a0_0, .int .i64 a0_1, .bool a0_2, .bool a0_3, .int .i64 a0_4, .int .i64 a0_5, .int .i64 a0_6, .int .i64 a0_7, .int .i64 a0_8, .int .i64 a0_9], .string a1] w fun e w' => e = .returned (.bool r) ∧ Below w.heap.size w w' := by
  have hu23 := Try.underlying23
  have HB := Aside0.mk (Below.refl w.heap.size w)
  have H : ((miradorlaw13_works.f).bind fun t262 => (if t262 = true then (if (a1.size : Int) > 60 then (some t262) else ((format_Parse.f a1).bind fun bt263 => ((miradorref13_Parse.f k a1).bind fun bt275 => ((format_Valid.f a0_0 a0_1 a0_2 a0_3 a0_4 a0_5 a0_6 a0_7 a0_8 a0_9).bind fun t287 => ((miradorref13_Valid.f k a0_0 a0_1 a0_2 a0_3 a0_4 a0_5 a0_6 a0_7 a0_8 a0_9).bind fun t288 => (if (t287 == t288) = true then ((format_Bytes.f a0_0 a0_1 a0_2 a0_3 a0_4 a0_5 a0_6 a0_7 a0_8 a0_9).bind fun t289 => ((miradorref13_Bytes.f k a0_0 a0_1 a0_2 a0_3 a0_4 a0_5 a0_6 a0_7 a0_8 a0_9).bind fun t290 => (if t289.toList = t290.toList then (if (bt263.1 == bt275.1 && (bt263.2.1 == bt275.2.1 && (bt263.2.2.1 == bt275.2.2.1 && (bt263.2.2.2.1 == bt275.2.2.2.1 && (bt263.2.2.2.2.1 == bt275.2.2.2.2.1 && (bt263.2.2.2.2.2.1 == bt275.2.2.2.2.2.1 && (bt263.2.2.2.2.2.2.1 == bt275.2.2.2.2.2.2.1 && (bt263.2.2.2.2.2.2.2.1 == bt275.2.2.2.2.2.2.2.1 && (bt263.2.2.2.2.2.2.2.2.1 == bt275.2.2.2.2.2.2.2.2.1 && (bt263.2.2.2.2.2.2.2.2.2.1 == bt275.2.2.2.2.2.2.2.2.2.1)))))))))) = true then (if bt263.2.2.2.2.2.2.2.2.2.2 = bt275.2.2.2.2.2.2.2.2.2.2 then ((format_Standard.f).bind fun bt291 => ((miradorref13_Standard.f).bind fun bt301 => (some (bt291.1 == bt301.1 && (bt291.2.1 == bt301.2.1 && (bt291.2.2.1 == bt301.2.2.1 && (bt291.2.2.2.1 == bt301.2.2.2.1 && (bt291.2.2.2.2.1 == bt301.2.2.2.2.1 && (bt291.2.2.2.2.2.1 == bt301.2.2.2.2.2.1 && (bt291.2.2.2.2.2.2.1 == bt301.2.2.2.2.2.2.1 && (bt291.2.2.2.2.2.2.2.1 == bt301.2.2.2.2.2.2.2.1 && (bt291.2.2.2.2.2.2.2.2.1 == bt301.2.2.2.2.2.2.2.2.1 && (bt291.2.2.2.2.2.2.2.2.2 == bt301.2.2.2.2.2.2.2.2.2))))))))))))) else (some false)) else (some false)) else (some false)))) else (some false))))))) else (some false))) = some r := h
  clear h
  have HRT := Aside0.mk hr_
  clear hr_
  replace H := Option.bind_eq_some_iff.mp H
  obtain ⟨t262, A30, H⟩ := H
  replace H : (if t262 = true then (if (a1.size : Int) > 60 then (some t262) else ((format_Parse.f a1).bind fun bt263 => ((miradorref13_Parse.f k a1).bind fun bt275 => ((format_Valid.f a0_0 a0_1 a0_2 a0_3 a0_4 a0_5 a0_6 a0_7 a0_8 a0_9).bind fun t287 => ((miradorref13_Valid.f k a0_0 a0_1 a0_2 a0_3 a0_4 a0_5 a0_6 a0_7 a0_8 a0_9).bind fun t288 => (if (t287 == t288) = true then ((format_Bytes.f a0_0 a0_1 a0_2 a0_3 a0_4 a0_5 a0_6 a0_7 a0_8 a0_9).bind fun t289 => ((miradorref13_Bytes.f k a0_0 a0_1 a0_2 a0_3 a0_4 a0_5 a0_6 a0_7 a0_8 a0_9).bind fun t290 => (if t289.toList = t290.toList then (if (bt263.1 == bt275.1 && (bt263.2.1 == bt275.2.1 && (bt263.2.2.1 == bt275.2.2.1 && (bt263.2.2.2.1 == bt275.2.2.2.1 && (bt263.2.2.2.2.1 == bt275.2.2.2.2.1 && (bt263.2.2.2.2.2.1 == bt275.2.2.2.2.2.1 && (bt263.2.2.2.2.2.2.1 == bt275.2.2.2.2.2.2.1 && (bt263.2.2.2.2.2.2.2.1 == bt275.2.2.2.2.2.2.2.1 && (bt263.2.2.2.2.2.2.2.2.1 == bt275.2.2.2.2.2.2.2.2.1 && (bt263.2.2.2.2.2.2.2.2.2.1 == bt275.2.2.2.2.2.2.2.2.2.1)))))))))) = true then (if bt263.2.2.2.2.2.2.2.2.2.2 = bt275.2.2.2.2.2.2.2.2.2.2 then ((format_Standard.f).bind fun bt291 => ((miradorref13_Standard.f).bind fun bt301 => (some (bt291.1 == bt301.1 && (bt291.2.1 == bt301.2.1 && (bt291.2.2.1 == bt301.2.2.1 && (bt291.2.2.2.1 == bt301.2.2.2.1 && (bt291.2.2.2.2.1 == bt301.2.2.2.2.1 && (bt291.2.2.2.2.2.1 == bt301.2.2.2.2.2.1 && (bt291.2.2.2.2.2.2.1 == bt301.2.2.2.2.2.2.1 && (bt291.2.2.2.2.2.2.2.1 == bt301.2.2.2.2.2.2.2.1 && (bt291.2.2.2.2.2.2.2.2.1 == bt301.2.2.2.2.2.2.2.2.1 && (bt291.2.2.2.2.2.2.2.2.2 == bt301.2.2.2.2.2.2.2.2.2))))))))))))) else (some false)) else (some false)) else (some false)))) else (some false))))))) else (some false)) = some r := H
  have A3 := Aside0.mk A30
  clear A30
  by_cases c4 : t262 = true
  · subst c4
    have H1 : (if (a1.size : Int) > 60 then (some true) else ((format_Parse.f a1).bind fun bt263 => ((miradorref13_Parse.f k a1).bind fun bt275 => ((format_Valid.f a0_0 a0_1 a0_2 a0_3 a0_4 a0_5 a0_6 a0_7 a0_8 a0_9).bind fun t287 => ((miradorref13_Valid.f k a0_0 a0_1 a0_2 a0_3 a0_4 a0_5 a0_6 a0_7 a0_8 a0_9).bind fun t288 => (if (t287 == t288) = true then ((format_Bytes.f a0_0 a0_1 a0_2 a0_3 a0_4 a0_5 a0_6 a0_7 a0_8 a0_9).bind fun t289 => ((miradorref13_Bytes.f k a0_0 a0_1 a0_2 a0_3 a0_4 a0_5 a0_6 a0_7 a0_8 a0_9).bind fun t290 => (if t289.toList = t290.toList then (if (bt263.1 == bt275.1 && (bt263.2.1 == bt275.2.1 && (bt263.2.2.1 == bt275.2.2.1 && (bt263.2.2.2.1 == bt275.2.2.2.1 && (bt263.2.2.2.2.1 == bt275.2.2.2.2.1 && (bt263.2.2.2.2.2.1 == bt275.2.2.2.2.2.1 && (bt263.2.2.2.2.2.2.1 == bt275.2.2.2.2.2.2.1 && (bt263.2.2.2.2.2.2.2.1 == bt275.2.2.2.2.2.2.2.1 && (bt263.2.2.2.2.2.2.2.2.1 == bt275.2.2.2.2.2.2.2.2.1 && (bt263.2.2.2.2.2.2.2.2.2.1 == bt275.2.2.2.2.2.2.2.2.2.1)))))))))) = true then (if bt263.2.2.2.2.2.2.2.2.2.2 = bt275.2.2.2.2.2.2.2.2.2.2 then ((format_Standard.f).bind fun bt291 => ((miradorref13_Standard.f).bind fun bt301 => (some (bt291.1 == bt301.1 && (bt291.2.1 == bt301.2.1 && (bt291.2.2.1 == bt301.2.2.1 && (bt291.2.2.2.1 == bt301.2.2.2.1 && (bt291.2.2.2.2.1 == bt301.2.2.2.2.1 && (bt291.2.2.2.2.2.1 == bt301.2.2.2.2.2.1 && (bt291.2.2.2.2.2.2.1 == bt301.2.2.2.2.2.2.1 && (bt291.2.2.2.2.2.2.2.1 == bt301.2.2.2.2.2.2.2.1 && (bt291.2.2.2.2.2.2.2.2.1 == bt301.2.2.2.2.2.2.2.2.1 && (bt291.2.2.2.2.2.2.2.2.2 == bt301.2.2.2.2.2.2.2.2.2))))))))))))) else (some false)) else (some false)) else (some false)))) else (some false))))))) = some r := by rw [if_pos rfl] at H; exact H
    clear H
    have H := H1
    clear H1
    by_cases c5 : (a1.size : Int) > 60
    · rw [if_pos c5] at H
      have c5b0 : decide (60 < (a1.size : Int)) = true := decide_eq_true c5
      have c5b1 : decide (60 < a1.size) = true := decide_eq_true (by omega)
      clear c5
      obtain rfl := Option.some.inj H
      go_enter Try.func3, Try.ntmps3
      go_wp2_with (first | ((with_reducible refine gate_dst (N := 2) rfl ?_); refine box_event ?hg (N := 2) ?hd (cs := #[.int .i64 a0_0, .int .i64 a0_1, .bool a0_2, .bool a0_3, .int .i64 a0_4, .int .i64 a0_5, .int .i64 a0_6, .int .i64 a0_7, .int .i64 a0_8, .int .i64 a0_9]) (t := 23) ?hr ?_; (case hd => rfl); (case hg => rfl); (case hr => first | (go_simp; done) | (go_simp; rfl)); intro gb261 hg w6 hbox hb; have n0_ := Aside0.mk (below_step (by repeat (first | (with_reducible first | exact HB.out | apply below_alloc | apply pw_below_drewN | apply below_drew1) | exact HB.out)) hb); have n1_ := Aside0.mk (hbox); have n2_ := Aside0.mk ((by rw [hg]; exact (below_size (by repeat (first | (with_reducible first | exact HB.out | apply below_alloc | apply pw_below_drewN | apply below_drew1) | exact HB.out))) : w.heap.size ≤ gb261)); have n3_ := Aside0.mk ((by rw [hg]; exact (below_size (by repeat (first | (with_reducible first | exact HB.out | apply below_alloc | apply pw_below_drewN | apply below_drew1) | exact HB.out))) : w.heap.size ≤ gb261)); clear HB; have HB := n0_; have BK261 := n1_; have GW261 := n2_; have GE261 := n3_; clear n0_ n1_ n2_ n3_; clear hb hbox hg) | ((with_reducible refine gate_callee (f := 8) rfl ?_); refine goesL_ (some 10) rfl rfl Try.func8 (by kernel_rfl) rfl #[] rfl (by (try simp only [List.map_toArray, List.map_cons, List.map_nil]); first | done | rfl | (simp only [List.length_drop, List.length_take]; rfl)) ?_; (with_reducible refine (miradorlaw13_works.calls  true _ A3.out).mono ?_); rintro e w7 ⟨rfl, hb⟩; refine ⟨_, rfl, ?_⟩; have n0_ := Aside0.mk (blk_below (g := gb261) (o := .cells #[.int .i64 a0_0, .int .i64 a0_1, .bool a0_2, .bool a0_3, .int .i64 a0_4, .int .i64 a0_5, .int .i64 a0_6, .int .i64 a0_7, .int .i64 a0_8, .int .i64 a0_9] 23 (0, 0)) (by (with_reducible repeat (first | refine blk_drewN ?_ _ | refine blk_drew ?_ | refine blk_alloc ?_ _)); exact BK261.out) hb); have n1_ := Aside0.mk (below_step (by repeat (first | (with_reducible first | exact HB.out | apply below_alloc | apply pw_below_drewN | apply below_drew1 | refine below_set ?_ GE261.out) | exact HB.out)) hb); clear BK261; clear HB; have BK261 := n0_; have HB := n1_; clear n0_ n1_; (try clear hb); (try clear hb2); (try clear hk); (try clear hi)))
      go_ret
      exact ⟨by first | rfl | (simp [errW_none, errW_some] <;> rfl) | (simp [*, errW_none, errW_some] <;> rfl), by repeat (first | (with_reducible first | exact HB.out | apply below_alloc | apply pw_below_drewN | apply below_drew1 | refine below_set ?_ GE261.out) | exact HB.out)⟩
    · rw [if_neg c5] at H
      have c5b0 : decide (60 < (a1.size : Int)) = false := decide_eq_false c5
      have c5b1 : decide (60 < a1.size) = false := decide_eq_false (by omega)
      clear c5
      replace H := Option.bind_eq_some_iff.mp H
      obtain ⟨⟨t263, t264, t265, t266, t267, t268, t269, t270, t271, t272, t273⟩, A80, H⟩ := H
      replace H : ((miradorref13_Parse.f k a1).bind fun bt275 => ((format_Valid.f a0_0 a0_1 a0_2 a0_3 a0_4 a0_5 a0_6 a0_7 a0_8 a0_9).bind fun t287 => ((miradorref13_Valid.f k a0_0 a0_1 a0_2 a0_3 a0_4 a0_5 a0_6 a0_7 a0_8 a0_9).bind fun t288 => (if (t287 == t288) = true then ((format_Bytes.f a0_0 a0_1 a0_2 a0_3 a0_4 a0_5 a0_6 a0_7 a0_8 a0_9).bind fun t289 => ((miradorref13_Bytes.f k a0_0 a0_1 a0_2 a0_3 a0_4 a0_5 a0_6 a0_7 a0_8 a0_9).bind fun t290 => (if t289.toList = t290.toList then (if (t263 == bt275.1 && (t264 == bt275.2.1 && (t265 == bt275.2.2.1 && (t266 == bt275.2.2.2.1 && (t267 == bt275.2.2.2.2.1 && (t268 == bt275.2.2.2.2.2.1 && (t269 == bt275.2.2.2.2.2.2.1 && (t270 == bt275.2.2.2.2.2.2.2.1 && (t271 == bt275.2.2.2.2.2.2.2.2.1 && (t272 == bt275.2.2.2.2.2.2.2.2.2.1)))))))))) = true then (if t273 = bt275.2.2.2.2.2.2.2.2.2.2 then ((format_Standard.f).bind fun bt291 => ((miradorref13_Standard.f).bind fun bt301 => (some (bt291.1 == bt301.1 && (bt291.2.1 == bt301.2.1 && (bt291.2.2.1 == bt301.2.2.1 && (bt291.2.2.2.1 == bt301.2.2.2.1 && (bt291.2.2.2.2.1 == bt301.2.2.2.2.1 && (bt291.2.2.2.2.2.1 == bt301.2.2.2.2.2.1 && (bt291.2.2.2.2.2.2.1 == bt301.2.2.2.2.2.2.1 && (bt291.2.2.2.2.2.2.2.1 == bt301.2.2.2.2.2.2.2.1 && (bt291.2.2.2.2.2.2.2.2.1 == bt301.2.2.2.2.2.2.2.2.1 && (bt291.2.2.2.2.2.2.2.2.2 == bt301.2.2.2.2.2.2.2.2.2))))))))))))) else (some false)) else (some false)) else (some false)))) else (some false))))) = some r := H
      have A8 := Aside0.mk A80
      clear A80
      replace H := Option.bind_eq_some_iff.mp H
      obtain ⟨⟨t275, t276, t277, t278, t279, t280, t281, t282, t283, t284, t285⟩, A90, H⟩ := H
      replace H : ((format_Valid.f a0_0 a0_1 a0_2 a0_3 a0_4 a0_5 a0_6 a0_7 a0_8 a0_9).bind fun t287 => ((miradorref13_Valid.f k a0_0 a0_1 a0_2 a0_3 a0_4 a0_5 a0_6 a0_7 a0_8 a0_9).bind fun t288 => (if (t287 == t288) = true then ((format_Bytes.f a0_0 a0_1 a0_2 a0_3 a0_4 a0_5 a0_6 a0_7 a0_8 a0_9).bind fun t289 => ((miradorref13_Bytes.f k a0_0 a0_1 a0_2 a0_3 a0_4 a0_5 a0_6 a0_7 a0_8 a0_9).bind fun t290 => (if t289.toList = t290.toList then (if (t263 == t275 && (t264 == t276 && (t265 == t277 && (t266 == t278 && (t267 == t279 && (t268 == t280 && (t269 == t281 && (t270 == t282 && (t271 == t283 && (t272 == t284)))))))))) = true then (if t273 = t285 then ((format_Standard.f).bind fun bt291 => ((miradorref13_Standard.f).bind fun bt301 => (some (bt291.1 == bt301.1 && (bt291.2.1 == bt301.2.1 && (bt291.2.2.1 == bt301.2.2.1 && (bt291.2.2.2.1 == bt301.2.2.2.1 && (bt291.2.2.2.2.1 == bt301.2.2.2.2.1 && (bt291.2.2.2.2.2.1 == bt301.2.2.2.2.2.1 && (bt291.2.2.2.2.2.2.1 == bt301.2.2.2.2.2.2.1 && (bt291.2.2.2.2.2.2.2.1 == bt301.2.2.2.2.2.2.2.1 && (bt291.2.2.2.2.2.2.2.2.1 == bt301.2.2.2.2.2.2.2.2.1 && (bt291.2.2.2.2.2.2.2.2.2 == bt301.2.2.2.2.2.2.2.2.2))))))))))))) else (some false)) else (some false)) else (some false)))) else (some false)))) = some r := H
      have A9 := Aside0.mk A90
      clear A90
      replace H := Option.bind_eq_some_iff.mp H
      obtain ⟨t287, A100, H⟩ := H
      replace H : ((miradorref13_Valid.f k a0_0 a0_1 a0_2 a0_3 a0_4 a0_5 a0_6 a0_7 a0_8 a0_9).bind fun t288 => (if (t287 == t288) = true then ((format_Bytes.f a0_0 a0_1 a0_2 a0_3 a0_4 a0_5 a0_6 a0_7 a0_8 a0_9).bind fun t289 => ((miradorref13_Bytes.f k a0_0 a0_1 a0_2 a0_3 a0_4 a0_5 a0_6 a0_7 a0_8 a0_9).bind fun t290 => (if t289.toList = t290.toList then (if (t263 == t275 && (t264 == t276 && (t265 == t277 && (t266 == t278 && (t267 == t279 && (t268 == t280 && (t269 == t281 && (t270 == t282 && (t271 == t283 && (t272 == t284)))))))))) = true then (if t273 = t285 then ((format_Standard.f).bind fun bt291 => ((miradorref13_Standard.f).bind fun bt301 => (some (bt291.1 == bt301.1 && (bt291.2.1 == bt301.2.1 && (bt291.2.2.1 == bt301.2.2.1 && (bt291.2.2.2.1 == bt301.2.2.2.1 && (bt291.2.2.2.2.1 == bt301.2.2.2.2.1 && (bt291.2.2.2.2.2.1 == bt301.2.2.2.2.2.1 && (bt291.2.2.2.2.2.2.1 == bt301.2.2.2.2.2.2.1 && (bt291.2.2.2.2.2.2.2.1 == bt301.2.2.2.2.2.2.2.1 && (bt291.2.2.2.2.2.2.2.2.1 == bt301.2.2.2.2.2.2.2.2.1 && (bt291.2.2.2.2.2.2.2.2.2 == bt301.2.2.2.2.2.2.2.2.2))))))))))))) else (some false)) else (some false)) else (some false)))) else (some false))) = some r := H
      have A10 := Aside0.mk A100
      clear A100
      replace H := Option.bind_eq_some_iff.mp H
      obtain ⟨t288, A110, H⟩ := H
      replace H : (if (t287 == t288) = true then ((format_Bytes.f a0_0 a0_1 a0_2 a0_3 a0_4 a0_5 a0_6 a0_7 a0_8 a0_9).bind fun t289 => ((miradorref13_Bytes.f k a0_0 a0_1 a0_2 a0_3 a0_4 a0_5 a0_6 a0_7 a0_8 a0_9).bind fun t290 => (if t289.toList = t290.toList then (if (t263 == t275 && (t264 == t276 && (t265 == t277 && (t266 == t278 && (t267 == t279 && (t268 == t280 && (t269 == t281 && (t270 == t282 && (t271 == t283 && (t272 == t284)))))))))) = true then (if t273 = t285 then ((format_Standard.f).bind fun bt291 => ((miradorref13_Standard.f).bind fun bt301 => (some (bt291.1 == bt301.1 && (bt291.2.1 == bt301.2.1 && (bt291.2.2.1 == bt301.2.2.1 && (bt291.2.2.2.1 == bt301.2.2.2.1 && (bt291.2.2.2.2.1 == bt301.2.2.2.2.1 && (bt291.2.2.2.2.2.1 == bt301.2.2.2.2.2.1 && (bt291.2.2.2.2.2.2.1 == bt301.2.2.2.2.2.2.1 && (bt291.2.2.2.2.2.2.2.1 == bt301.2.2.2.2.2.2.2.1 && (bt291.2.2.2.2.2.2.2.2.1 == bt301.2.2.2.2.2.2.2.2.1 && (bt291.2.2.2.2.2.2.2.2.2 == bt301.2.2.2.2.2.2.2.2.2))))))))))))) else (some false)) else (some false)) else (some false)))) else (some false)) = some r := H
      have A11 := Aside0.mk A110
      clear A110
      by_cases c12 : (t287 == t288) = true
      · rw [if_pos c12] at H
        have c12b0 : (t287 == t288) = true := c12
        (try (have c12b1 : decide (t287 = t288) = true := by simpa using c12))
        (try (have c12b2 : (t287 == t288) = true := by simpa using c12))
        clear c12
        replace H := Option.bind_eq_some_iff.mp H
        obtain ⟨t289, A130, H⟩ := H
        replace H : ((miradorref13_Bytes.f k a0_0 a0_1 a0_2 a0_3 a0_4 a0_5 a0_6 a0_7 a0_8 a0_9).bind fun t290 => (if t289.toList = t290.toList then (if (t263 == t275 && (t264 == t276 && (t265 == t277 && (t266 == t278 && (t267 == t279 && (t268 == t280 && (t269 == t281 && (t270 == t282 && (t271 == t283 && (t272 == t284)))))))))) = true then (if t273 = t285 then ((format_Standard.f).bind fun bt291 => ((miradorref13_Standard.f).bind fun bt301 => (some (bt291.1 == bt301.1 && (bt291.2.1 == bt301.2.1 && (bt291.2.2.1 == bt301.2.2.1 && (bt291.2.2.2.1 == bt301.2.2.2.1 && (bt291.2.2.2.2.1 == bt301.2.2.2.2.1 && (bt291.2.2.2.2.2.1 == bt301.2.2.2.2.2.1 && (bt291.2.2.2.2.2.2.1 == bt301.2.2.2.2.2.2.1 && (bt291.2.2.2.2.2.2.2.1 == bt301.2.2.2.2.2.2.2.1 && (bt291.2.2.2.2.2.2.2.2.1 == bt301.2.2.2.2.2.2.2.2.1 && (bt291.2.2.2.2.2.2.2.2.2 == bt301.2.2.2.2.2.2.2.2.2))))))))))))) else (some false)) else (some false)) else (some false))) = some r := H
        have A13 := Aside0.mk A130
        clear A130
        replace H := Option.bind_eq_some_iff.mp H
        obtain ⟨t290, A140, H⟩ := H
        replace H : (if t289.toList = t290.toList then (if (t263 == t275 && (t264 == t276 && (t265 == t277 && (t266 == t278 && (t267 == t279 && (t268 == t280 && (t269 == t281 && (t270 == t282 && (t271 == t283 && (t272 == t284)))))))))) = true then (if t273 = t285 then ((format_Standard.f).bind fun bt291 => ((miradorref13_Standard.f).bind fun bt301 => (some (bt291.1 == bt301.1 && (bt291.2.1 == bt301.2.1 && (bt291.2.2.1 == bt301.2.2.1 && (bt291.2.2.2.1 == bt301.2.2.2.1 && (bt291.2.2.2.2.1 == bt301.2.2.2.2.1 && (bt291.2.2.2.2.2.1 == bt301.2.2.2.2.2.1 && (bt291.2.2.2.2.2.2.1 == bt301.2.2.2.2.2.2.1 && (bt291.2.2.2.2.2.2.2.1 == bt301.2.2.2.2.2.2.2.1 && (bt291.2.2.2.2.2.2.2.2.1 == bt301.2.2.2.2.2.2.2.2.1 && (bt291.2.2.2.2.2.2.2.2.2 == bt301.2.2.2.2.2.2.2.2.2))))))))))))) else (some false)) else (some false)) else (some false)) = some r := H
        have A14 := Aside0.mk A140
        clear A140
        by_cases c15 : t289.toList = t290.toList
        · rw [if_pos c15] at H
          have c15b0 : (t289.toList == t290.toList) = true := beq_iff_eq.mpr c15
          have c15b1 : (t289.toList != t290.toList) = false := bne_eq_false_iff_eq.mpr c15
          clear c15
          by_cases c16 : (t263 == t275 && (t264 == t276 && (t265 == t277 && (t266 == t278 && (t267 == t279 && (t268 == t280 && (t269 == t281 && (t270 == t282 && (t271 == t283 && (t272 == t284)))))))))) = true
          · rw [if_pos c16] at H
            have c16b0 : (t263 == t275 && (t264 == t276 && (t265 == t277 && (t266 == t278 && (t267 == t279 && (t268 == t280 && (t269 == t281 && (t270 == t282 && (t271 == t283 && (t272 == t284)))))))))) = true := c16
            (try (have c16b1 : decide (t263 = t275 && (t264 == t276 && (t265 == t277 && (t266 == t278 && (t267 == t279 && (t268 == t280 && (t269 == t281 && (t270 == t282 && (t271 == t283 && (t272 == t284)))))))))) = true := by simpa using c16))
            (try (have c16b2 : (t263 == t275 && (t264 == t276 && (t265 == t277 && (t266 == t278 && (t267 == t279 && (t268 == t280 && (t269 == t281 && (t270 == t282 && (t271 == t283 && (t272 == t284)))))))))) = true := by simpa using c16))
            clear c16
            by_cases c17 : t273 = t285
            · rw [if_pos c17] at H
              have c17b0 : (t273 == t285) = true := beq_iff_eq.mpr c17
              have c17b1 : (t273 != t285) = false := bne_eq_false_iff_eq.mpr c17
              clear c17
              replace H := Option.bind_eq_some_iff.mp H
              obtain ⟨⟨t291, t292, t293, t294, t295, t296, t297, t298, t299, t300⟩, A180, H⟩ := H
              replace H : ((miradorref13_Standard.f).bind fun bt301 => (some (t291 == bt301.1 && (t292 == bt301.2.1 && (t293 == bt301.2.2.1 && (t294 == bt301.2.2.2.1 && (t295 == bt301.2.2.2.2.1 && (t296 == bt301.2.2.2.2.2.1 && (t297 == bt301.2.2.2.2.2.2.1 && (t298 == bt301.2.2.2.2.2.2.2.1 && (t299 == bt301.2.2.2.2.2.2.2.2.1 && (t300 == bt301.2.2.2.2.2.2.2.2.2)))))))))))) = some r := H
              have A18 := Aside0.mk A180
              clear A180
              replace H := Option.bind_eq_some_iff.mp H
              obtain ⟨⟨t301, t302, t303, t304, t305, t306, t307, t308, t309, t310⟩, A190, H⟩ := H
              replace H : (some (t291 == t301 && (t292 == t302 && (t293 == t303 && (t294 == t304 && (t295 == t305 && (t296 == t306 && (t297 == t307 && (t298 == t308 && (t299 == t309 && (t300 == t310))))))))))) = some r := H
              have A19 := Aside0.mk A190
              clear A190
              obtain rfl := Option.some.inj H
              go_enter Try.func3, Try.ntmps3
              try go_wp2_with (first | ((with_reducible refine gate_dst (N := 2) rfl ?_); refine box_event ?hg (N := 2) ?hd (cs := #[.int .i64 a0_0, .int .i64 a0_1, .bool a0_2, .bool a0_3, .int .i64 a0_4, .int .i64 a0_5, .int .i64 a0_6, .int .i64 a0_7, .int .i64 a0_8, .int .i64 a0_9]) (t := 23) ?hr ?_; (case hd => rfl); (case hg => rfl); (case hr => first | (go_simp; done) | (go_simp; rfl)); intro gb261 hg w20 hbox hb; have n0_ := Aside0.mk (below_step (by repeat (first | (with_reducible first | exact HB.out | apply below_alloc | apply pw_below_drewN | apply below_drew1) | exact HB.out)) hb); have n1_ := Aside0.mk (hbox); have n2_ := Aside0.mk ((by rw [hg]; exact (below_size (by repeat (first | (with_reducible first | exact HB.out | apply below_alloc | apply pw_below_drewN | apply below_drew1) | exact HB.out))) : w.heap.size ≤ gb261)); have n3_ := Aside0.mk ((by rw [hg]; exact (below_size (by repeat (first | (with_reducible first | exact HB.out | apply below_alloc | apply pw_below_drewN | apply below_drew1) | exact HB.out))) : w.heap.size ≤ gb261)); clear HB; have HB := n0_; have BK261 := n1_; have GW261 := n2_; have GE261 := n3_; clear n0_ n1_ n2_ n3_; clear hb hbox hg) | ((with_reducible refine gate_callee (f := 8) rfl ?_); refine goesL_ (some 10) rfl rfl Try.func8 (by kernel_rfl) rfl #[] rfl (by (try simp only [List.map_toArray, List.map_cons, List.map_nil]); first | done | rfl | (simp only [List.length_drop, List.length_take]; rfl)) ?_; (with_reducible refine (miradorlaw13_works.calls  true _ A3.out).mono ?_); rintro e w21 ⟨rfl, hb⟩; refine ⟨_, rfl, ?_⟩; have n0_ := Aside0.mk (blk_below (g := gb261) (o := .cells #[.int .i64 a0_0, .int .i64 a0_1, .bool a0_2, .bool a0_3, .int .i64 a0_4, .int .i64 a0_5, .int .i64 a0_6, .int .i64 a0_7, .int .i64 a0_8, .int .i64 a0_9] 23 (0, 0)) (by (with_reducible repeat (first | refine blk_drewN ?_ _ | refine blk_drew ?_ | refine blk_alloc ?_ _)); exact BK261.out) hb); have n1_ := Aside0.mk (below_step (by repeat (first | (with_reducible first | exact HB.out | apply below_alloc | apply pw_below_drewN | apply below_drew1 | refine below_set ?_ GE261.out) | exact HB.out)) hb); clear BK261; clear HB; have BK261 := n0_; have HB := n1_; clear n0_ n1_; (try clear hb); (try clear hb2); (try clear hk); (try clear hi)) | ((with_reducible refine gate_callee (f := 9) rfl ?_); refine goesL_ (some 19) rfl rfl Try.func9 (by kernel_rfl) rfl #[.string a1] rfl (by (try simp only [List.map_toArray, List.map_cons, List.map_nil]); first | done | rfl | (simp only [List.length_drop, List.length_take]; rfl)) ?_; (with_reducible refine (format_Parse.calls a1 t263 t264 t265 t266 t267 t268 t269 t270 t271 t272 t273 _ A8.out).mono ?_); rintro e w22 ⟨rfl, hb⟩; refine ⟨_, rfl, ?_⟩; have n0_ := Aside0.mk (blk_below (g := gb261) (o := .cells #[.int .i64 a0_0, .int .i64 a0_1, .bool a0_2, .bool a0_3, .int .i64 a0_4, .int .i64 a0_5, .int .i64 a0_6, .int .i64 a0_7, .int .i64 a0_8, .int .i64 a0_9] 23 (0, 0)) (by (with_reducible repeat (first | refine blk_drewN ?_ _ | refine blk_drew ?_ | refine blk_alloc ?_ _)); exact BK261.out) hb); have n1_ := Aside0.mk (below_step (by repeat (first | (with_reducible first | exact HB.out | apply below_alloc | apply pw_below_drewN | apply below_drew1 | refine below_set ?_ GE261.out) | exact HB.out)) hb); clear BK261; clear HB; have BK261 := n0_; have HB := n1_; clear n0_ n1_; (try clear hb); (try clear hb2); (try clear hk); (try clear hi)) | ((with_reducible refine gate_dst (N := 6) rfl ?_); refine box_event ?hg (N := 6) ?hd (cs := #[.int .i64 0, .int .i64 0, .bool false, .bool false, .int .i64 0, .int .i64 0, .int .i64 0, .int .i64 0, .int .i64 0, .int .i64 0]) (t := 23) ?hr ?_; (case hd => rfl); (case hg => rfl); (case hr => first | (go_simp; done) | (go_simp; rfl)); intro gb274 hg w23 hbox hb; have n0_ := Aside0.mk (blk_below (g := gb261) (o := .cells #[.int .i64 a0_0, .int .i64 a0_1, .bool a0_2, .bool a0_3, .int .i64 a0_4, .int .i64 a0_5, .int .i64 a0_6, .int .i64 a0_7, .int .i64 a0_8, .int .i64 a0_9] 23 (0, 0)) (by (with_reducible repeat (first | refine blk_drewN ?_ _ | refine blk_drew ?_ | refine blk_alloc ?_ _)); exact BK261.out) hb); have n1_ := Aside0.mk (below_step (by repeat (first | (with_reducible first | exact HB.out | apply below_alloc | apply pw_below_drewN | apply below_drew1 | refine below_set ?_ GE261.out) | exact HB.out)) hb); have n2_ := Aside0.mk (hbox); have n3_ := Aside0.mk ((by rw [hg]; exact (below_size (by repeat (first | (with_reducible first | exact HB.out | apply below_alloc | apply pw_below_drewN | apply below_drew1 | refine below_set ?_ GE261.out) | exact HB.out))) : w.heap.size ≤ gb274)); have n4_ := Aside0.mk ((by rw [hg]; exact (below_size (by repeat (first | (with_reducible first | exact HB.out | apply below_alloc | apply pw_below_drewN | apply below_drew1 | refine below_set ?_ GE261.out) | exact HB.out))) : w.heap.size ≤ gb274)); have n5_ := Aside0.mk ((by rw [hg]; exact Nat.ne_of_lt (blk_lt (g := gb261) (o := .cells #[.int .i64 a0_0, .int .i64 a0_1, .bool a0_2, .bool a0_3, .int .i64 a0_4, .int .i64 a0_5, .int .i64 a0_6, .int .i64 a0_7, .int .i64 a0_8, .int .i64 a0_9] 23 (0, 0)) (by (with_reducible repeat (first | refine blk_drewN ?_ _ | refine blk_drew ?_ | refine blk_alloc ?_ _)); exact BK261.out)) : gb261 ≠ gb274)); have n6_ := Aside0.mk ((by rw [hg]; exact Nat.ne_of_gt (blk_lt (g := gb261) (o := .cells #[.int .i64 a0_0, .int .i64 a0_1, .bool a0_2, .bool a0_3, .int .i64 a0_4, .int .i64 a0_5, .int .i64 a0_6, .int .i64 a0_7, .int .i64 a0_8, .int .i64 a0_9] 23 (0, 0)) (by (with_reducible repeat (first | refine blk_drewN ?_ _ | refine blk_drew ?_ | refine blk_alloc ?_ _)); exact BK261.out)) : gb274 ≠ gb261)); clear BK261; clear HB; have BK261 := n0_; have HB := n1_; have BK274 := n2_; have GW274 := n3_; have GE274 := n4_; have NB261_274 := n5_; have NB274_261 := n6_; clear n0_ n1_ n2_ n3_ n4_ n5_ n6_; clear hb hbox hg; have hnb24 := NB274_261.out; have hnc24 := NB261_274.out; have hcz25_0 : w23.cell? ⟨gb274, 0, none⟩ = some (.int .i64 0) := (blk_cell BK274.out 0).trans rfl; have hcz25_1 : w23.cell? ⟨gb274, 1, none⟩ = some (.int .i64 0) := (blk_cell BK274.out 1).trans rfl; have hcz25_2 : w23.cell? ⟨gb274, 2, none⟩ = some (.bool false) := (blk_cell BK274.out 2).trans rfl; have hcz25_3 : w23.cell? ⟨gb274, 3, none⟩ = some (.bool false) := (blk_cell BK274.out 3).trans rfl; have hcz25_4 : w23.cell? ⟨gb274, 4, none⟩ = some (.int .i64 0) := (blk_cell BK274.out 4).trans rfl; have hcz25_5 : w23.cell? ⟨gb274, 5, none⟩ = some (.int .i64 0) := (blk_cell BK274.out 5).trans rfl; have hcz25_6 : w23.cell? ⟨gb274, 6, none⟩ = some (.int .i64 0) := (blk_cell BK274.out 6).trans rfl; have hcz25_7 : w23.cell? ⟨gb274, 7, none⟩ = some (.int .i64 0) := (blk_cell BK274.out 7).trans rfl; have hcz25_8 : w23.cell? ⟨gb274, 8, none⟩ = some (.int .i64 0) := (blk_cell BK274.out 8).trans rfl; have hcz25_9 : w23.cell? ⟨gb274, 9, none⟩ = some (.int .i64 0) := (blk_cell BK274.out 9).trans rfl; have hfz25_0 := blk_frozen BK274.out 0; have hfz25_1 := blk_frozen BK274.out 1; have hfz25_2 := blk_frozen BK274.out 2; have hfz25_3 := blk_frozen BK274.out 3; have hfz25_4 := blk_frozen BK274.out 4; have hfz25_5 := blk_frozen BK274.out 5; have hfz25_6 := blk_frozen BK274.out 6; have hfz25_7 := blk_frozen BK274.out 7; have hfz25_8 := blk_frozen BK274.out 8; have hfz25_9 := blk_frozen BK274.out 9) | ((with_reducible refine gate_callee (f := 10) rfl ?_); refine goesL_ (some 24) rfl rfl Try.func10 (by kernel_rfl) rfl #[.string a1] rfl (by (try simp only [List.map_toArray, List.map_cons, List.map_nil]); first | done | rfl | (simp only [List.length_drop, List.length_take]; rfl)) ?_; (with_reducible refine (miradorref13_Parse.calls k a1 t275 t276 t277 t278 t279 t280 t281 t282 t283 t284 t285 _ A9.out).mono ?_); rintro e w26 ⟨rfl, hb⟩; refine ⟨_, rfl, ?_⟩; have n0_ := Aside0.mk (blk_below (g := gb261) (o := .cells #[.int .i64 a0_0, .int .i64 a0_1, .bool a0_2, .bool a0_3, .int .i64 a0_4, .int .i64 a0_5, .int .i64 a0_6, .int .i64 a0_7, .int .i64 a0_8, .int .i64 a0_9] 23 (0, 0)) (by (with_reducible repeat (first | refine blk_drewN ?_ _ | refine blk_drew ?_ | refine blk_alloc ?_ _)); refine blk_far ?_ NB261_274.out _; (with_reducible repeat (first | refine blk_drewN ?_ _ | refine blk_drew ?_ | refine blk_alloc ?_ _)); refine blk_far ?_ NB261_274.out _; (with_reducible repeat (first | refine blk_drewN ?_ _ | refine blk_drew ?_ | refine blk_alloc ?_ _)); refine blk_far ?_ NB261_274.out _; (with_reducible repeat (first | refine blk_drewN ?_ _ | refine blk_drew ?_ | refine blk_alloc ?_ _)); refine blk_far ?_ NB261_274.out _; (with_reducible repeat (first | refine blk_drewN ?_ _ | refine blk_drew ?_ | refine blk_alloc ?_ _)); refine blk_far ?_ NB261_274.out _; (with_reducible repeat (first | refine blk_drewN ?_ _ | refine blk_drew ?_ | refine blk_alloc ?_ _)); refine blk_far ?_ NB261_274.out _; (with_reducible repeat (first | refine blk_drewN ?_ _ | refine blk_drew ?_ | refine blk_alloc ?_ _)); refine blk_far ?_ NB261_274.out _; (with_reducible repeat (first | refine blk_drewN ?_ _ | refine blk_drew ?_ | refine blk_alloc ?_ _)); refine blk_far ?_ NB261_274.out _; (with_reducible repeat (first | refine blk_drewN ?_ _ | refine blk_drew ?_ | refine blk_alloc ?_ _)); refine blk_far ?_ NB261_274.out _; (with_reducible repeat (first | refine blk_drewN ?_ _ | refine blk_drew ?_ | refine blk_alloc ?_ _)); refine blk_far ?_ NB261_274.out _; (with_reducible repeat (first | refine blk_drewN ?_ _ | refine blk_drew ?_ | refine blk_alloc ?_ _)); exact BK261.out) hb); have n1_ := Aside0.mk (blk_below (g := gb274) (o := .cells #[.int .i64 t263, .int .i64 t264, .bool t265, .bool t266, .int .i64 t267, .int .i64 t268, .int .i64 t269, .int .i64 t270, .int .i64 t271, .int .i64 t272] 23 (0, 0)) (by (with_reducible repeat (first | refine blk_drewN ?_ _ | refine blk_drew ?_ | refine blk_alloc ?_ _)); refine blk_put (cs := #[.int .i64 t263, .int .i64 t264, .bool t265, .bool t266, .int .i64 t267, .int .i64 t268, .int .i64 t269, .int .i64 t270, .int .i64 t271, .int .i64 0]) ?_ 9 _ rfl; (with_reducible repeat (first | refine blk_drewN ?_ _ | refine blk_drew ?_ | refine blk_alloc ?_ _)); refine blk_put (cs := #[.int .i64 t263, .int .i64 t264, .bool t265, .bool t266, .int .i64 t267, .int .i64 t268, .int .i64 t269, .int .i64 t270, .int .i64 0, .int .i64 0]) ?_ 8 _ rfl; (with_reducible repeat (first | refine blk_drewN ?_ _ | refine blk_drew ?_ | refine blk_alloc ?_ _)); refine blk_put (cs := #[.int .i64 t263, .int .i64 t264, .bool t265, .bool t266, .int .i64 t267, .int .i64 t268, .int .i64 t269, .int .i64 0, .int .i64 0, .int .i64 0]) ?_ 7 _ rfl; (with_reducible repeat (first | refine blk_drewN ?_ _ | refine blk_drew ?_ | refine blk_alloc ?_ _)); refine blk_put (cs := #[.int .i64 t263, .int .i64 t264, .bool t265, .bool t266, .int .i64 t267, .int .i64 t268, .int .i64 0, .int .i64 0, .int .i64 0, .int .i64 0]) ?_ 6 _ rfl; (with_reducible repeat (first | refine blk_drewN ?_ _ | refine blk_drew ?_ | refine blk_alloc ?_ _)); refine blk_put (cs := #[.int .i64 t263, .int .i64 t264, .bool t265, .bool t266, .int .i64 t267, .int .i64 0, .int .i64 0, .int .i64 0, .int .i64 0, .int .i64 0]) ?_ 5 _ rfl; (with_reducible repeat (first | refine blk_drewN ?_ _ | refine blk_drew ?_ | refine blk_alloc ?_ _)); refine blk_put (cs := #[.int .i64 t263, .int .i64 t264, .bool t265, .bool t266, .int .i64 0, .int .i64 0, .int .i64 0, .int .i64 0, .int .i64 0, .int .i64 0]) ?_ 4 _ rfl; (with_reducible repeat (first | refine blk_drewN ?_ _ | refine blk_drew ?_ | refine blk_alloc ?_ _)); refine blk_put (cs := #[.int .i64 t263, .int .i64 t264, .bool t265, .bool false, .int .i64 0, .int .i64 0, .int .i64 0, .int .i64 0, .int .i64 0, .int .i64 0]) ?_ 3 _ rfl; (with_reducible repeat (first | refine blk_drewN ?_ _ | refine blk_drew ?_ | refine blk_alloc ?_ _)); refine blk_put (cs := #[.int .i64 t263, .int .i64 t264, .bool false, .bool false, .int .i64 0, .int .i64 0, .int .i64 0, .int .i64 0, .int .i64 0, .int .i64 0]) ?_ 2 _ rfl; (with_reducible repeat (first | refine blk_drewN ?_ _ | refine blk_drew ?_ | refine blk_alloc ?_ _)); refine blk_put (cs := #[.int .i64 t263, .int .i64 0, .bool false, .bool false, .int .i64 0, .int .i64 0, .int .i64 0, .int .i64 0, .int .i64 0, .int .i64 0]) ?_ 1 _ rfl; (with_reducible repeat (first | refine blk_drewN ?_ _ | refine blk_drew ?_ | refine blk_alloc ?_ _)); refine blk_put (cs := #[.int .i64 0, .int .i64 0, .bool false, .bool false, .int .i64 0, .int .i64 0, .int .i64 0, .int .i64 0, .int .i64 0, .int .i64 0]) ?_ 0 _ rfl; (with_reducible repeat (first | refine blk_drewN ?_ _ | refine blk_drew ?_ | refine blk_alloc ?_ _)); exact BK274.out) hb); have n2_ := Aside0.mk (below_step (by repeat (first | (with_reducible first | exact HB.out | apply below_alloc | apply pw_below_drewN | apply below_drew1 | refine below_set ?_ GE261.out | refine below_set ?_ GE274.out) | exact HB.out)) hb); clear BK261; clear BK274; clear HB; have BK261 := n0_; have BK274 := n1_; have HB := n2_; clear n0_ n1_ n2_; (try clear hb); (try clear hb2); (try clear hk); (try clear hi)) | ((with_reducible refine gate_dst (N := 8) rfl ?_); refine box_event ?hg (N := 8) ?hd (cs := #[.int .i64 0, .int .i64 0, .bool false, .bool false, .int .i64 0, .int .i64 0, .int .i64 0, .int .i64 0, .int .i64 0, .int .i64 0]) (t := 23) ?hr ?_; (case hd => rfl); (case hg => rfl); (case hr => first | (go_simp; done) | (go_simp; rfl)); intro gb286 hg w27 hbox hb; have n0_ := Aside0.mk (blk_below (g := gb261) (o := .cells #[.int .i64 a0_0, .int .i64 a0_1, .bool a0_2, .bool a0_3, .int .i64 a0_4, .int .i64 a0_5, .int .i64 a0_6, .int .i64 a0_7, .int .i64 a0_8, .int .i64 a0_9] 23 (0, 0)) (by (with_reducible repeat (first | refine blk_drewN ?_ _ | refine blk_drew ?_ | refine blk_alloc ?_ _)); exact BK261.out) hb); have n1_ := Aside0.mk (blk_below (g := gb274) (o := .cells #[.int .i64 t263, .int .i64 t264, .bool t265, .bool t266, .int .i64 t267, .int .i64 t268, .int .i64 t269, .int .i64 t270, .int .i64 t271, .int .i64 t272] 23 (0, 0)) (by (with_reducible repeat (first | refine blk_drewN ?_ _ | refine blk_drew ?_ | refine blk_alloc ?_ _)); exact BK274.out) hb); have n2_ := Aside0.mk (below_step (by repeat (first | (with_reducible first | exact HB.out | apply below_alloc | apply pw_below_drewN | apply below_drew1 | refine below_set ?_ GE261.out | refine below_set ?_ GE274.out) | exact HB.out)) hb); have n3_ := Aside0.mk (hbox); have n4_ := Aside0.mk ((by rw [hg]; exact (below_size (by repeat (first | (with_reducible first | exact HB.out | apply below_alloc | apply pw_below_drewN | apply below_drew1 | refine below_set ?_ GE261.out | refine below_set ?_ GE274.out) | exact HB.out))) : w.heap.size ≤ gb286)); have n5_ := Aside0.mk ((by rw [hg]; exact (below_size (by repeat (first | (with_reducible first | exact HB.out | apply below_alloc | apply pw_below_drewN | apply below_drew1 | refine below_set ?_ GE261.out | refine below_set ?_ GE274.out) | exact HB.out))) : w.heap.size ≤ gb286)); have n6_ := Aside0.mk ((by rw [hg]; exact Nat.ne_of_lt (blk_lt (g := gb261) (o := .cells #[.int .i64 a0_0, .int .i64 a0_1, .bool a0_2, .bool a0_3, .int .i64 a0_4, .int .i64 a0_5, .int .i64 a0_6, .int .i64 a0_7, .int .i64 a0_8, .int .i64 a0_9] 23 (0, 0)) (by (with_reducible repeat (first | refine blk_drewN ?_ _ | refine blk_drew ?_ | refine blk_alloc ?_ _)); exact BK261.out)) : gb261 ≠ gb286)); have n7_ := Aside0.mk ((by rw [hg]; exact Nat.ne_of_gt (blk_lt (g := gb261) (o := .cells #[.int .i64 a0_0, .int .i64 a0_1, .bool a0_2, .bool a0_3, .int .i64 a0_4, .int .i64 a0_5, .int .i64 a0_6, .int .i64 a0_7, .int .i64 a0_8, .int .i64 a0_9] 23 (0, 0)) (by (with_reducible repeat (first | refine blk_drewN ?_ _ | refine blk_drew ?_ | refine blk_alloc ?_ _)); exact BK261.out)) : gb286 ≠ gb261)); have n8_ := Aside0.mk ((by rw [hg]; exact Nat.ne_of_lt (blk_lt (g := gb274) (o := .cells #[.int .i64 t263, .int .i64 t264, .bool t265, .bool t266, .int .i64 t267, .int .i64 t268, .int .i64 t269, .int .i64 t270, .int .i64 t271, .int .i64 t272] 23 (0, 0)) (by (with_reducible repeat (first | refine blk_drewN ?_ _ | refine blk_drew ?_ | refine blk_alloc ?_ _)); exact BK274.out)) : gb274 ≠ gb286)); have n9_ := Aside0.mk ((by rw [hg]; exact Nat.ne_of_gt (blk_lt (g := gb274) (o := .cells #[.int .i64 t263, .int .i64 t264, .bool t265, .bool t266, .int .i64 t267, .int .i64 t268, .int .i64 t269, .int .i64 t270, .int .i64 t271, .int .i64 t272] 23 (0, 0)) (by (with_reducible repeat (first | refine blk_drewN ?_ _ | refine blk_drew ?_ | refine blk_alloc ?_ _)); exact BK274.out)) : gb286 ≠ gb274)); clear BK261; clear BK274; clear HB; have BK261 := n0_; have BK274 := n1_; have HB := n2_; have BK286 := n3_; have GW286 := n4_; have GE286 := n5_; have NB261_286 := n6_; have NB286_261 := n7_; have NB274_286 := n8_; have NB286_274 := n9_; clear n0_ n1_ n2_ n3_ n4_ n5_ n6_ n7_ n8_ n9_; clear hb hbox hg; have hnb28 := NB286_261.out; have hnc28 := NB261_286.out; have hnb29 := NB286_274.out; have hnc29 := NB274_286.out; have hcz30_0 : w27.cell? ⟨gb286, 0, none⟩ = some (.int .i64 0) := (blk_cell BK286.out 0).trans rfl; have hcz30_1 : w27.cell? ⟨gb286, 1, none⟩ = some (.int .i64 0) := (blk_cell BK286.out 1).trans rfl; have hcz30_2 : w27.cell? ⟨gb286, 2, none⟩ = some (.bool false) := (blk_cell BK286.out 2).trans rfl; have hcz30_3 : w27.cell? ⟨gb286, 3, none⟩ = some (.bool false) := (blk_cell BK286.out 3).trans rfl; have hcz30_4 : w27.cell? ⟨gb286, 4, none⟩ = some (.int .i64 0) := (blk_cell BK286.out 4).trans rfl; have hcz30_5 : w27.cell? ⟨gb286, 5, none⟩ = some (.int .i64 0) := (blk_cell BK286.out 5).trans rfl; have hcz30_6 : w27.cell? ⟨gb286, 6, none⟩ = some (.int .i64 0) := (blk_cell BK286.out 6).trans rfl; have hcz30_7 : w27.cell? ⟨gb286, 7, none⟩ = some (.int .i64 0) := (blk_cell BK286.out 7).trans rfl; have hcz30_8 : w27.cell? ⟨gb286, 8, none⟩ = some (.int .i64 0) := (blk_cell BK286.out 8).trans rfl; have hcz30_9 : w27.cell? ⟨gb286, 9, none⟩ = some (.int .i64 0) := (blk_cell BK286.out 9).trans rfl; have hfz30_0 := blk_frozen BK286.out 0; have hfz30_1 := blk_frozen BK286.out 1; have hfz30_2 := blk_frozen BK286.out 2; have hfz30_3 := blk_frozen BK286.out 3; have hfz30_4 := blk_frozen BK286.out 4; have hfz30_5 := blk_frozen BK286.out 5; have hfz30_6 := blk_frozen BK286.out 6; have hfz30_7 := blk_frozen BK286.out 7; have hfz30_8 := blk_frozen BK286.out 8; have hfz30_9 := blk_frozen BK286.out 9))
              have n0_ : Aside0 (((((((((((w27.setCell ⟨gb286, 0, none⟩ (.int .i64 t275)).setCell ⟨gb286, 1, none⟩ (.int .i64 t276)).setCell ⟨gb286, 2, none⟩ (.bool t277)).setCell ⟨gb286, 3, none⟩ (.bool t278)).setCell ⟨gb286, 4, none⟩ (.int .i64 t279)).setCell ⟨gb286, 5, none⟩ (.int .i64 t280)).setCell ⟨gb286, 6, none⟩ (.int .i64 t281)).setCell ⟨gb286, 7, none⟩ (.int .i64 t282)).setCell ⟨gb286, 8, none⟩ (.int .i64 t283)).setCell ⟨gb286, 9, none⟩ (.int .i64 t284)).heap[gb261]? = some (.cells #[.int .i64 a0_0, .int .i64 a0_1, .bool a0_2, .bool a0_3, .int .i64 a0_4, .int .i64 a0_5, .int .i64 a0_6, .int .i64 a0_7, .int .i64 a0_8, .int .i64 a0_9] 23 (0, 0))) := ⟨by (with_reducible repeat (first | refine blk_drewN ?_ _ | refine blk_drew ?_ | refine blk_alloc ?_ _)); refine blk_far ?_ NB261_286.out _; (with_reducible repeat (first | refine blk_drewN ?_ _ | refine blk_drew ?_ | refine blk_alloc ?_ _)); refine blk_far ?_ NB261_286.out _; (with_reducible repeat (first | refine blk_drewN ?_ _ | refine blk_drew ?_ | refine blk_alloc ?_ _)); refine blk_far ?_ NB261_286.out _; (with_reducible repeat (first | refine blk_drewN ?_ _ | refine blk_drew ?_ | refine blk_alloc ?_ _)); refine blk_far ?_ NB261_286.out _; (with_reducible repeat (first | refine blk_drewN ?_ _ | refine blk_drew ?_ | refine blk_alloc ?_ _)); refine blk_far ?_ NB261_286.out _; (with_reducible repeat (first | refine blk_drewN ?_ _ | refine blk_drew ?_ | refine blk_alloc ?_ _)); refine blk_far ?_ NB261_286.out _; (with_reducible repeat (first | refine blk_drewN ?_ _ | refine blk_drew ?_ | refine blk_alloc ?_ _)); refine blk_far ?_ NB261_286.out _; (with_reducible repeat (first | refine blk_drewN ?_ _ | refine blk_drew ?_ | refine blk_alloc ?_ _)); refine blk_far ?_ NB261_286.out _; (with_reducible repeat (first | refine blk_drewN ?_ _ | refine blk_drew ?_ | refine blk_alloc ?_ _)); refine blk_far ?_ NB261_286.out _; (with_reducible repeat (first | refine blk_drewN ?_ _ | refine blk_drew ?_ | refine blk_alloc ?_ _)); refine blk_far ?_ NB261_286.out _; (with_reducible repeat (first | refine blk_drewN ?_ _ | refine blk_drew ?_ | refine blk_alloc ?_ _)); exact BK261.out⟩
              have n1_ : Aside0 (((((((((((w27.setCell ⟨gb286, 0, none⟩ (.int .i64 t275)).setCell ⟨gb286, 1, none⟩ (.int .i64 t276)).setCell ⟨gb286, 2, none⟩ (.bool t277)).setCell ⟨gb286, 3, none⟩ (.bool t278)).setCell ⟨gb286, 4, none⟩ (.int .i64 t279)).setCell ⟨gb286, 5, none⟩ (.int .i64 t280)).setCell ⟨gb286, 6, none⟩ (.int .i64 t281)).setCell ⟨gb286, 7, none⟩ (.int .i64 t282)).setCell ⟨gb286, 8, none⟩ (.int .i64 t283)).setCell ⟨gb286, 9, none⟩ (.int .i64 t284)).heap[gb274]? = some (.cells #[.int .i64 t263, .int .i64 t264, .bool t265, .bool t266, .int .i64 t267, .int .i64 t268, .int .i64 t269, .int .i64 t270, .int .i64 t271, .int .i64 t272] 23 (0, 0))) := ⟨by (with_reducible repeat (first | refine blk_drewN ?_ _ | refine blk_drew ?_ | refine blk_alloc ?_ _)); refine blk_far ?_ NB274_286.out _; (with_reducible repeat (first | refine blk_drewN ?_ _ | refine blk_drew ?_ | refine blk_alloc ?_ _)); refine blk_far ?_ NB274_286.out _; (with_reducible repeat (first | refine blk_drewN ?_ _ | refine blk_drew ?_ | refine blk_alloc ?_ _)); refine blk_far ?_ NB274_286.out _; (with_reducible repeat (first | refine blk_drewN ?_ _ | refine blk_drew ?_ | refine blk_alloc ?_ _)); refine blk_far ?_ NB274_286.out _; (with_reducible repeat (first | refine blk_drewN ?_ _ | refine blk_drew ?_ | refine blk_alloc ?_ _)); refine blk_far ?_ NB274_286.out _; (with_reducible repeat (first | refine blk_drewN ?_ _ | refine blk_drew ?_ | refine blk_alloc ?_ _)); refine blk_far ?_ NB274_286.out _; (with_reducible repeat (first | refine blk_drewN ?_ _ | refine blk_drew ?_ | refine blk_alloc ?_ _)); refine blk_far ?_ NB274_286.out _; (with_reducible repeat (first | refine blk_drewN ?_ _ | refine blk_drew ?_ | refine blk_alloc ?_ _)); refine blk_far ?_ NB274_286.out _; (with_reducible repeat (first | refine blk_drewN ?_ _ | refine blk_drew ?_ | refine blk_alloc ?_ _)); refine blk_far ?_ NB274_286.out _; (with_reducible repeat (first | refine blk_drewN ?_ _ | refine blk_drew ?_ | refine blk_alloc ?_ _)); refine blk_far ?_ NB274_286.out _; (with_reducible repeat (first | refine blk_drewN ?_ _ | refine blk_drew ?_ | refine blk_alloc ?_ _)); exact BK274.out⟩
              have n2_ : Aside0 (((((((((((w27.setCell ⟨gb286, 0, none⟩ (.int .i64 t275)).setCell ⟨gb286, 1, none⟩ (.int .i64 t276)).setCell ⟨gb286, 2, none⟩ (.bool t277)).setCell ⟨gb286, 3, none⟩ (.bool t278)).setCell ⟨gb286, 4, none⟩ (.int .i64 t279)).setCell ⟨gb286, 5, none⟩ (.int .i64 t280)).setCell ⟨gb286, 6, none⟩ (.int .i64 t281)).setCell ⟨gb286, 7, none⟩ (.int .i64 t282)).setCell ⟨gb286, 8, none⟩ (.int .i64 t283)).setCell ⟨gb286, 9, none⟩ (.int .i64 t284)).heap[gb286]? = some (.cells #[.int .i64 t275, .int .i64 t276, .bool t277, .bool t278, .int .i64 t279, .int .i64 t280, .int .i64 t281, .int .i64 t282, .int .i64 t283, .int .i64 t284] 23 (0, 0))) := ⟨by (with_reducible repeat (first | refine blk_drewN ?_ _ | refine blk_drew ?_ | refine blk_alloc ?_ _)); refine blk_put (cs := #[.int .i64 t275, .int .i64 t276, .bool t277, .bool t278, .int .i64 t279, .int .i64 t280, .int .i64 t281, .int .i64 t282, .int .i64 t283, .int .i64 0]) ?_ 9 _ rfl; (with_reducible repeat (first | refine blk_drewN ?_ _ | refine blk_drew ?_ | refine blk_alloc ?_ _)); refine blk_put (cs := #[.int .i64 t275, .int .i64 t276, .bool t277, .bool t278, .int .i64 t279, .int .i64 t280, .int .i64 t281, .int .i64 t282, .int .i64 0, .int .i64 0]) ?_ 8 _ rfl; (with_reducible repeat (first | refine blk_drewN ?_ _ | refine blk_drew ?_ | refine blk_alloc ?_ _)); refine blk_put (cs := #[.int .i64 t275, .int .i64 t276, .bool t277, .bool t278, .int .i64 t279, .int .i64 t280, .int .i64 t281, .int .i64 0, .int .i64 0, .int .i64 0]) ?_ 7 _ rfl; (with_reducible repeat (first | refine blk_drewN ?_ _ | refine blk_drew ?_ | refine blk_alloc ?_ _)); refine blk_put (cs := #[.int .i64 t275, .int .i64 t276, .bool t277, .bool t278, .int .i64 t279, .int .i64 t280, .int .i64 0, .int .i64 0, .int .i64 0, .int .i64 0]) ?_ 6 _ rfl; (with_reducible repeat (first | refine blk_drewN ?_ _ | refine blk_drew ?_ | refine blk_alloc ?_ _)); refine blk_put (cs := #[.int .i64 t275, .int .i64 t276, .bool t277, .bool t278, .int .i64 t279, .int .i64 0, .int .i64 0, .int .i64 0, .int .i64 0, .int .i64 0]) ?_ 5 _ rfl; (with_reducible repeat (first | refine blk_drewN ?_ _ | refine blk_drew ?_ | refine blk_alloc ?_ _)); refine blk_put (cs := #[.int .i64 t275, .int .i64 t276, .bool t277, .bool t278, .int .i64 0, .int .i64 0, .int .i64 0, .int .i64 0, .int .i64 0, .int .i64 0]) ?_ 4 _ rfl; (with_reducible repeat (first | refine blk_drewN ?_ _ | refine blk_drew ?_ | refine blk_alloc ?_ _)); refine blk_put (cs := #[.int .i64 t275, .int .i64 t276, .bool t277, .bool false, .int .i64 0, .int .i64 0, .int .i64 0, .int .i64 0, .int .i64 0, .int .i64 0]) ?_ 3 _ rfl; (with_reducible repeat (first | refine blk_drewN ?_ _ | refine blk_drew ?_ | refine blk_alloc ?_ _)); refine blk_put (cs := #[.int .i64 t275, .int .i64 t276, .bool false, .bool false, .int .i64 0, .int .i64 0, .int .i64 0, .int .i64 0, .int .i64 0, .int .i64 0]) ?_ 2 _ rfl; (with_reducible repeat (first | refine blk_drewN ?_ _ | refine blk_drew ?_ | refine blk_alloc ?_ _)); refine blk_put (cs := #[.int .i64 t275, .int .i64 0, .bool false, .bool false, .int .i64 0, .int .i64 0, .int .i64 0, .int .i64 0, .int .i64 0, .int .i64 0]) ?_ 1 _ rfl; (with_reducible repeat (first | refine blk_drewN ?_ _ | refine blk_drew ?_ | refine blk_alloc ?_ _)); refine blk_put (cs := #[.int .i64 0, .int .i64 0, .bool false, .bool false, .int .i64 0, .int .i64 0, .int .i64 0, .int .i64 0, .int .i64 0, .int .i64 0]) ?_ 0 _ rfl; (with_reducible repeat (first | refine blk_drewN ?_ _ | refine blk_drew ?_ | refine blk_alloc ?_ _)); exact BK286.out⟩
              have n3_ : Aside0 (Below w.heap.size w ((((((((((w27.setCell ⟨gb286, 0, none⟩ (.int .i64 t275)).setCell ⟨gb286, 1, none⟩ (.int .i64 t276)).setCell ⟨gb286, 2, none⟩ (.bool t277)).setCell ⟨gb286, 3, none⟩ (.bool t278)).setCell ⟨gb286, 4, none⟩ (.int .i64 t279)).setCell ⟨gb286, 5, none⟩ (.int .i64 t280)).setCell ⟨gb286, 6, none⟩ (.int .i64 t281)).setCell ⟨gb286, 7, none⟩ (.int .i64 t282)).setCell ⟨gb286, 8, none⟩ (.int .i64 t283)).setCell ⟨gb286, 9, none⟩ (.int .i64 t284))) := ⟨by repeat (first | (with_reducible first | exact HB.out | apply below_alloc | apply pw_below_drewN | apply below_drew1 | refine below_set ?_ GE261.out | refine below_set ?_ GE274.out | refine below_set ?_ GE286.out) | exact HB.out)⟩
              (try clear BK261)
              (try clear BK274)
              (try clear BK286)
              (try clear HB)
              generalize ((((((((((w27.setCell ⟨gb286, 0, none⟩ (.int .i64 t275)).setCell ⟨gb286, 1, none⟩ (.int .i64 t276)).setCell ⟨gb286, 2, none⟩ (.bool t277)).setCell ⟨gb286, 3, none⟩ (.bool t278)).setCell ⟨gb286, 4, none⟩ (.int .i64 t279)).setCell ⟨gb286, 5, none⟩ (.int .i64 t280)).setCell ⟨gb286, 6, none⟩ (.int .i64 t281)).setCell ⟨gb286, 7, none⟩ (.int .i64 t282)).setCell ⟨gb286, 8, none⟩ (.int .i64 t283)).setCell ⟨gb286, 9, none⟩ (.int .i64 t284)) = w31 at n0_ n1_ n2_ n3_ ⊢
              have BK261 := n0_
              have BK274 := n1_
              have BK286 := n2_
              have HB := n3_
              clear n0_ n1_ n2_ n3_
              have n0_ := Aside0.mk (blk_drew BK261.out)
              have n1_ := Aside0.mk (blk_drew BK274.out)
              have n2_ := Aside0.mk (blk_drew BK286.out)
              have n3_ := Aside0.mk (below_drew1 HB.out)
              clear BK261
              clear BK274
              clear BK286
              clear HB
              have BK261 := n0_
              have BK274 := n1_
              have BK286 := n2_
              have HB := n3_
              clear n0_ n1_ n2_ n3_
              refine start_ (n := 31) (S := fun w' => w'.cell? ⟨gb261, 0, none⟩ = some (.int .i64 a0_0) ∧ w'.cell? ⟨gb261, 1, none⟩ = some (.int .i64 a0_1) ∧ w'.cell? ⟨gb261, 2, none⟩ = some (.bool a0_2) ∧ w'.cell? ⟨gb261, 3, none⟩ = some (.bool a0_3) ∧ w'.cell? ⟨gb261, 4, none⟩ = some (.int .i64 a0_4) ∧ w'.cell? ⟨gb261, 5, none⟩ = some (.int .i64 a0_5) ∧ w'.cell? ⟨gb261, 6, none⟩ = some (.int .i64 a0_6) ∧ w'.cell? ⟨gb261, 7, none⟩ = some (.int .i64 a0_7) ∧ w'.cell? ⟨gb261, 8, none⟩ = some (.int .i64 a0_8) ∧ w'.cell? ⟨gb261, 9, none⟩ = some (.int .i64 a0_9) ∧ w'.cell? ⟨gb274, 0, none⟩ = some (.int .i64 t263) ∧ w'.cell? ⟨gb274, 1, none⟩ = some (.int .i64 t264) ∧ w'.cell? ⟨gb274, 2, none⟩ = some (.bool t265) ∧ w'.cell? ⟨gb274, 3, none⟩ = some (.bool t266) ∧ w'.cell? ⟨gb274, 4, none⟩ = some (.int .i64 t267) ∧ w'.cell? ⟨gb274, 5, none⟩ = some (.int .i64 t268) ∧ w'.cell? ⟨gb274, 6, none⟩ = some (.int .i64 t269) ∧ w'.cell? ⟨gb274, 7, none⟩ = some (.int .i64 t270) ∧ w'.cell? ⟨gb274, 8, none⟩ = some (.int .i64 t271) ∧ w'.cell? ⟨gb274, 9, none⟩ = some (.int .i64 t272) ∧ w'.cell? ⟨gb286, 0, none⟩ = some (.int .i64 t275) ∧ w'.cell? ⟨gb286, 1, none⟩ = some (.int .i64 t276) ∧ w'.cell? ⟨gb286, 2, none⟩ = some (.bool t277) ∧ w'.cell? ⟨gb286, 3, none⟩ = some (.bool t278) ∧ w'.cell? ⟨gb286, 4, none⟩ = some (.int .i64 t279) ∧ w'.cell? ⟨gb286, 5, none⟩ = some (.int .i64 t280) ∧ w'.cell? ⟨gb286, 6, none⟩ = some (.int .i64 t281) ∧ w'.cell? ⟨gb286, 7, none⟩ = some (.int .i64 t282) ∧ w'.cell? ⟨gb286, 8, none⟩ = some (.int .i64 t283) ∧ w'.cell? ⟨gb286, 9, none⟩ = some (.int .i64 t284)) (ds := []) #[false, false, false, false, false, false, false, false, false, false, false, false, false, false, false, false, false, false, false, false, false, false, false, false, false, false, false, false, false, false, false] (by kernel_rfl) rfl rfl ⟨(blk_cell BK261.out 0).trans rfl, (blk_cell BK261.out 1).trans rfl, (blk_cell BK261.out 2).trans rfl, (blk_cell BK261.out 3).trans rfl, (blk_cell BK261.out 4).trans rfl, (blk_cell BK261.out 5).trans rfl, (blk_cell BK261.out 6).trans rfl, (blk_cell BK261.out 7).trans rfl, (blk_cell BK261.out 8).trans rfl, (blk_cell BK261.out 9).trans rfl, (blk_cell BK274.out 0).trans rfl, (blk_cell BK274.out 1).trans rfl, (blk_cell BK274.out 2).trans rfl, (blk_cell BK274.out 3).trans rfl, (blk_cell BK274.out 4).trans rfl, (blk_cell BK274.out 5).trans rfl, (blk_cell BK274.out 6).trans rfl, (blk_cell BK274.out 7).trans rfl, (blk_cell BK274.out 8).trans rfl, (blk_cell BK274.out 9).trans rfl, (blk_cell BK286.out 0).trans rfl, (blk_cell BK286.out 1).trans rfl, (blk_cell BK286.out 2).trans rfl, (blk_cell BK286.out 3).trans rfl, (blk_cell BK286.out 4).trans rfl, (blk_cell BK286.out 5).trans rfl, (blk_cell BK286.out 6).trans rfl, (blk_cell BK286.out 7).trans rfl, (blk_cell BK286.out 8).trans rfl, (blk_cell BK286.out 9).trans rfl⟩ (fun hHeld => ?_); refine with_tabW miradorlaw13_FormatBytes.tab8 miradorlaw13_FormatBytes.bits8 (fun HT_ HW_ => ?_)
              generalize w31.drew = w32 at BK261 BK274 BK286 HB hHeld ⊢
              refine pure_ (i := 0) (N := some 27) (v := ?_) (a' := ?_) #[true, false, false, false, false, false, false, false, false, false, false, false, false, false, false, false, false, false, false, false, false, false, false, false, false, false, false, false, false, false, false] rfl rfl (any_of HT_.out (by kernel_rfl)) (fun _ _ _ h => h) (Or.inl ⟨by rfl, ?_⟩) ?_ ?_
              rotate_left
              · intro w'
                go_simp
                with_reducible rfl
              rotate_left
              · simp only [Act.put, List.setIfInBounds_toArray, List.set_cons_zero, List.set_cons_succ, i64_w, i32_w]
                rfl
              refine pure_ (i := 1) (N := some 28) (v := ?_) (a' := ?_) #[true, true, false, false, false, false, false, false, false, false, false, false, false, false, false, false, false, false, false, false, false, false, false, false, false, false, false, false, false, false, false] rfl rfl (any_of HT_.out (by kernel_rfl)) (fun _ _ _ h => h) (Or.inl ⟨by rfl, ?_⟩) ?_ ?_
              rotate_left
              · intro w'
                go_simp
                with_reducible rfl
              rotate_left
              · simp only [Act.put, List.setIfInBounds_toArray, List.set_cons_zero, List.set_cons_succ, i64_w, i32_w]
                rfl
              refine take_ (i := 2) (N := some 29) (v := ?_) (a' := ?_) #[true, true, true, false, false, false, false, false, false, false, false, false, false, false, false, false, false, false, false, false, false, false, false, false, false, false, false, false, false, false, false] rfl rfl (take_ofW HT_.out HW_.out (by kernel_rfl)) (fun _ _ _ h => h) (Or.inl ⟨by rfl, ?_⟩) hHeld ?_ ?_
              rotate_left
              · rintro w' ⟨s0, s1, s2, s3, s4, s5, s6, s7, s8, s9, s10, s11, s12, s13, s14, s15, s16, s17, s18, s19, s20, s21, s22, s23, s24, s25, s26, s27, s28, s29⟩
                go_simp
                with_reducible rfl
              rotate_left
              · simp only [Act.put, List.setIfInBounds_toArray, List.set_cons_zero, List.set_cons_succ, i64_w, i32_w]
                rfl
              refine take_ (i := 4) (N := some 31) (v := ?_) (a' := ?_) #[true, true, true, false, true, false, false, false, false, false, false, false, false, false, false, false, false, false, false, false, false, false, false, false, false, false, false, false, false, false, false] rfl rfl (take_ofW HT_.out HW_.out (by kernel_rfl)) (fun _ _ _ h => h) (Or.inl ⟨by rfl, ?_⟩) hHeld ?_ ?_
              rotate_left
              · rintro w' ⟨s0, s1, s2, s3, s4, s5, s6, s7, s8, s9, s10, s11, s12, s13, s14, s15, s16, s17, s18, s19, s20, s21, s22, s23, s24, s25, s26, s27, s28, s29⟩
                go_simp
                with_reducible rfl
              rotate_left
              · simp only [Act.put, List.setIfInBounds_toArray, List.set_cons_zero, List.set_cons_succ, i64_w, i32_w]
                rfl
              refine one_ (i := 3) (N := some 30) #[true, true, true, true, true, false, false, false, false, false, false, false, false, false, false, false, false, false, false, false, false, false, false, false, false, false, false, false, false, false, false] rfl rfl (one_of HT_.out (by kernel_rfl)) (by decide) (fun K hK => ?_)
              refine goes_ Try.func11 (by kernel_rfl) rfl #[.agg #[.int .i64 a0_0, .int .i64 a0_1, .bool a0_2, .bool a0_3, .int .i64 a0_4, .int .i64 a0_5, .int .i64 a0_6, .int .i64 a0_7, .int .i64 a0_8, .int .i64 a0_9]] (by rfl) rfl rfl (by (try simp only [List.map_toArray, List.map_cons, List.map_nil]); first | done | rfl | (simp only [List.length_drop, List.length_take]; rfl)) ?_
              with_reducible refine (format_Valid.calls a0_0 a0_1 a0_2 a0_3 a0_4 a0_5 a0_6 a0_7 a0_8 a0_9 t287 _ A10.out).mono ?_
              rintro e w33 ⟨rfl, hb⟩
              refine ⟨_, rfl, ?_⟩
              have n0_ := Aside0.mk (blk_below (g := gb261) (o := .cells #[.int .i64 a0_0, .int .i64 a0_1, .bool a0_2, .bool a0_3, .int .i64 a0_4, .int .i64 a0_5, .int .i64 a0_6, .int .i64 a0_7, .int .i64 a0_8, .int .i64 a0_9] 23 (0, 0)) (by (with_reducible repeat (first | refine blk_drewN ?_ _ | refine blk_drew ?_ | refine blk_alloc ?_ _)); exact BK261.out) hb)
              have n1_ := Aside0.mk (blk_below (g := gb274) (o := .cells #[.int .i64 t263, .int .i64 t264, .bool t265, .bool t266, .int .i64 t267, .int .i64 t268, .int .i64 t269, .int .i64 t270, .int .i64 t271, .int .i64 t272] 23 (0, 0)) (by (with_reducible repeat (first | refine blk_drewN ?_ _ | refine blk_drew ?_ | refine blk_alloc ?_ _)); exact BK274.out) hb)
              have n2_ := Aside0.mk (blk_below (g := gb286) (o := .cells #[.int .i64 t275, .int .i64 t276, .bool t277, .bool t278, .int .i64 t279, .int .i64 t280, .int .i64 t281, .int .i64 t282, .int .i64 t283, .int .i64 t284] 23 (0, 0)) (by (with_reducible repeat (first | refine blk_drewN ?_ _ | refine blk_drew ?_ | refine blk_alloc ?_ _)); exact BK286.out) hb)
              have n3_ := Aside0.mk (below_step (by repeat (first | (with_reducible first | exact HB.out | apply below_alloc | apply pw_below_drewN | apply below_drew1 | refine below_set ?_ GE261.out | refine below_set ?_ GE274.out | refine below_set ?_ GE286.out) | exact HB.out)) hb)
              clear BK261
              clear BK274
              clear BK286
              clear HB
              have BK261 := n0_
              have BK274 := n1_
              have BK286 := n2_
              have HB := n3_
              clear n0_ n1_ n2_ n3_
              (try clear hb)
              (try clear hb2)
              (try clear hk)
              (try clear hi)
              refine hK.out _ _ ⟨(blk_cell BK261.out 0).trans rfl, (blk_cell BK261.out 1).trans rfl, (blk_cell BK261.out 2).trans rfl, (blk_cell BK261.out 3).trans rfl, (blk_cell BK261.out 4).trans rfl, (blk_cell BK261.out 5).trans rfl, (blk_cell BK261.out 6).trans rfl, (blk_cell BK261.out 7).trans rfl, (blk_cell BK261.out 8).trans rfl, (blk_cell BK261.out 9).trans rfl, (blk_cell BK274.out 0).trans rfl, (blk_cell BK274.out 1).trans rfl, (blk_cell BK274.out 2).trans rfl, (blk_cell BK274.out 3).trans rfl, (blk_cell BK274.out 4).trans rfl, (blk_cell BK274.out 5).trans rfl, (blk_cell BK274.out 6).trans rfl, (blk_cell BK274.out 7).trans rfl, (blk_cell BK274.out 8).trans rfl, (blk_cell BK274.out 9).trans rfl, (blk_cell BK286.out 0).trans rfl, (blk_cell BK286.out 1).trans rfl, (blk_cell BK286.out 2).trans rfl, (blk_cell BK286.out 3).trans rfl, (blk_cell BK286.out 4).trans rfl, (blk_cell BK286.out 5).trans rfl, (blk_cell BK286.out 6).trans rfl, (blk_cell BK286.out 7).trans rfl, (blk_cell BK286.out 8).trans rfl, (blk_cell BK286.out 9).trans rfl⟩ (fun hHeld => ?_)
              clear hK K
              refine norm_ (a' := ?_) ?_ ?_
              rotate_left
              · show Act.put _ (some 30) _ = _
                simp only [Act.put, List.setIfInBounds_toArray, List.set_cons_zero, List.set_cons_succ, i64_w, i32_w]
                rfl
              refine one_ (i := 5) (N := some 32) #[true, true, true, true, true, true, false, false, false, false, false, false, false, false, false, false, false, false, false, false, false, false, false, false, false, false, false, false, false, false, false] rfl rfl (one_of HT_.out (by kernel_rfl)) (by decide) (fun K hK => ?_)
              refine goes_ Try.func12 (by kernel_rfl) rfl #[.agg #[.int .i64 a0_0, .int .i64 a0_1, .bool a0_2, .bool a0_3, .int .i64 a0_4, .int .i64 a0_5, .int .i64 a0_6, .int .i64 a0_7, .int .i64 a0_8, .int .i64 a0_9]] (by rfl) rfl rfl (by (try simp only [List.map_toArray, List.map_cons, List.map_nil]); first | done | rfl | (simp only [List.length_drop, List.length_take]; rfl)) ?_
              with_reducible refine (miradorref13_Valid.calls k a0_0 a0_1 a0_2 a0_3 a0_4 a0_5 a0_6 a0_7 a0_8 a0_9 t288 _ A11.out).mono ?_
              rintro e w34 ⟨rfl, hb⟩
              refine ⟨_, rfl, ?_⟩
              have n0_ := Aside0.mk (blk_below (g := gb261) (o := .cells #[.int .i64 a0_0, .int .i64 a0_1, .bool a0_2, .bool a0_3, .int .i64 a0_4, .int .i64 a0_5, .int .i64 a0_6, .int .i64 a0_7, .int .i64 a0_8, .int .i64 a0_9] 23 (0, 0)) (by (with_reducible repeat (first | refine blk_drewN ?_ _ | refine blk_drew ?_ | refine blk_alloc ?_ _)); exact BK261.out) hb)
              have n1_ := Aside0.mk (blk_below (g := gb274) (o := .cells #[.int .i64 t263, .int .i64 t264, .bool t265, .bool t266, .int .i64 t267, .int .i64 t268, .int .i64 t269, .int .i64 t270, .int .i64 t271, .int .i64 t272] 23 (0, 0)) (by (with_reducible repeat (first | refine blk_drewN ?_ _ | refine blk_drew ?_ | refine blk_alloc ?_ _)); exact BK274.out) hb)
              have n2_ := Aside0.mk (blk_below (g := gb286) (o := .cells #[.int .i64 t275, .int .i64 t276, .bool t277, .bool t278, .int .i64 t279, .int .i64 t280, .int .i64 t281, .int .i64 t282, .int .i64 t283, .int .i64 t284] 23 (0, 0)) (by (with_reducible repeat (first | refine blk_drewN ?_ _ | refine blk_drew ?_ | refine blk_alloc ?_ _)); exact BK286.out) hb)
              have n3_ := Aside0.mk (below_step (by repeat (first | (with_reducible first | exact HB.out | apply below_alloc | apply pw_below_drewN | apply below_drew1 | refine below_set ?_ GE261.out | refine below_set ?_ GE274.out | refine below_set ?_ GE286.out) | exact HB.out)) hb)
              clear BK261
              clear BK274
              clear BK286
              clear HB
              have BK261 := n0_
              have BK274 := n1_
              have BK286 := n2_
              have HB := n3_
              clear n0_ n1_ n2_ n3_
              (try clear hb)
              (try clear hb2)
              (try clear hk)
              (try clear hi)
              refine hK.out _ _ ⟨(blk_cell BK261.out 0).trans rfl, (blk_cell BK261.out 1).trans rfl, (blk_cell BK261.out 2).trans rfl, (blk_cell BK261.out 3).trans rfl, (blk_cell BK261.out 4).trans rfl, (blk_cell BK261.out 5).trans rfl, (blk_cell BK261.out 6).trans rfl, (blk_cell BK261.out 7).trans rfl, (blk_cell BK261.out 8).trans rfl, (blk_cell BK261.out 9).trans rfl, (blk_cell BK274.out 0).trans rfl, (blk_cell BK274.out 1).trans rfl, (blk_cell BK274.out 2).trans rfl, (blk_cell BK274.out 3).trans rfl, (blk_cell BK274.out 4).trans rfl, (blk_cell BK274.out 5).trans rfl, (blk_cell BK274.out 6).trans rfl, (blk_cell BK274.out 7).trans rfl, (blk_cell BK274.out 8).trans rfl, (blk_cell BK274.out 9).trans rfl, (blk_cell BK286.out 0).trans rfl, (blk_cell BK286.out 1).trans rfl, (blk_cell BK286.out 2).trans rfl, (blk_cell BK286.out 3).trans rfl, (blk_cell BK286.out 4).trans rfl, (blk_cell BK286.out 5).trans rfl, (blk_cell BK286.out 6).trans rfl, (blk_cell BK286.out 7).trans rfl, (blk_cell BK286.out 8).trans rfl, (blk_cell BK286.out 9).trans rfl⟩ (fun hHeld => ?_)
              clear hK K
              refine norm_ (a' := ?_) ?_ ?_
              rotate_left
              · show Act.put _ (some 32) _ = _
                simp only [Act.put, List.setIfInBounds_toArray, List.set_cons_zero, List.set_cons_succ, i64_w, i32_w]
                rfl
              refine pure_ (i := 6) (N := some 33) (v := ?_) (a' := ?_) #[true, true, true, true, true, true, true, false, false, false, false, false, false, false, false, false, false, false, false, false, false, false, false, false, false, false, false, false, false, false, false] rfl rfl (any_of HT_.out (by kernel_rfl)) (fun _ _ _ h => h) (Or.inl ⟨by rfl, ?_⟩) ?_ ?_
              rotate_left
              · intro w'
                go_simp
                with_reducible rfl
              rotate_left
              · simp only [Act.put, List.setIfInBounds_toArray, List.set_cons_zero, List.set_cons_succ, i64_w, i32_w]
                rfl
              refine pure_ (i := 7) (N := some 34) (v := ?_) (a' := ?_) #[true, true, true, true, true, true, true, true, false, false, false, false, false, false, false, false, false, false, false, false, false, false, false, false, false, false, false, false, false, false, false] rfl rfl (any_of HT_.out (by kernel_rfl)) (fun _ _ _ h => h) (Or.inl ⟨by rfl, ?_⟩) ?_ ?_
              rotate_left
              · intro w'
                go_simp
                with_reducible rfl
              rotate_left
              · simp only [Act.put, List.setIfInBounds_toArray, List.set_cons_zero, List.set_cons_succ, i64_w, i32_w]
                rfl
              refine pure_ (i := 8) (N := some 35) (v := ?_) (a' := ?_) #[true, true, true, true, true, true, true, true, true, false, false, false, false, false, false, false, false, false, false, false, false, false, false, false, false, false, false, false, false, false, false] rfl rfl (any_of HT_.out (by kernel_rfl)) (fun _ _ _ h => h) (Or.inl ⟨by rfl, ?_⟩) ?_ ?_
              rotate_left
              · intro w'
                go_simp
                with_reducible rfl
              rotate_left
              · simp only [Act.put, List.setIfInBounds_toArray, List.set_cons_zero, List.set_cons_succ, i64_w, i32_w]
                rfl
              refine take_ (i := 9) (N := some 36) (v := ?_) (a' := ?_) #[true, true, true, true, true, true, true, true, true, true, false, false, false, false, false, false, false, false, false, false, false, false, false, false, false, false, false, false, false, false, false] rfl rfl (take_ofW HT_.out HW_.out (by kernel_rfl)) (fun _ _ _ h => h) (Or.inl ⟨by rfl, ?_⟩) hHeld ?_ ?_
              rotate_left
              · rintro w' ⟨s0, s1, s2, s3, s4, s5, s6, s7, s8, s9, s10, s11, s12, s13, s14, s15, s16, s17, s18, s19, s20, s21, s22, s23, s24, s25, s26, s27, s28, s29⟩
                go_simp
                with_reducible rfl
              rotate_left
              · simp only [Act.put, List.setIfInBounds_toArray, List.set_cons_zero, List.set_cons_succ, i64_w, i32_w]
                rfl
              refine take_ (i := 11) (N := some 38) (v := ?_) (a' := ?_) #[true, true, true, true, true, true, true, true, true, true, false, true, false, false, false, false, false, false, false, false, false, false, false, false, false, false, false, false, false, false, false] rfl rfl (take_ofW HT_.out HW_.out (by kernel_rfl)) (fun _ _ _ h => h) (Or.inl ⟨by rfl, ?_⟩) hHeld ?_ ?_
              rotate_left
              · rintro w' ⟨s0, s1, s2, s3, s4, s5, s6, s7, s8, s9, s10, s11, s12, s13, s14, s15, s16, s17, s18, s19, s20, s21, s22, s23, s24, s25, s26, s27, s28, s29⟩
                go_simp
                with_reducible rfl
              rotate_left
              · simp only [Act.put, List.setIfInBounds_toArray, List.set_cons_zero, List.set_cons_succ, i64_w, i32_w]
                rfl
              refine one_ (i := 10) (N := some 37) #[true, true, true, true, true, true, true, true, true, true, true, true, false, false, false, false, false, false, false, false, false, false, false, false, false, false, false, false, false, false, false] rfl rfl (one_of HT_.out (by kernel_rfl)) (by decide) (fun K hK => ?_)
              refine goes_ Try.func13 (by kernel_rfl) rfl #[.agg #[.int .i64 a0_0, .int .i64 a0_1, .bool a0_2, .bool a0_3, .int .i64 a0_4, .int .i64 a0_5, .int .i64 a0_6, .int .i64 a0_7, .int .i64 a0_8, .int .i64 a0_9]] (by rfl) rfl rfl (by (try simp only [List.map_toArray, List.map_cons, List.map_nil]); first | done | rfl | (simp only [List.length_drop, List.length_take]; rfl)) ?_
              with_reducible refine (format_Bytes.calls a0_0 a0_1 a0_2 a0_3 a0_4 a0_5 a0_6 a0_7 a0_8 a0_9 t289 _ A13.out).mono ?_
              rintro e w35 ⟨rfl, hb⟩
              refine ⟨_, rfl, ?_⟩
              have n0_ := Aside0.mk (blk_below (g := gb261) (o := .cells #[.int .i64 a0_0, .int .i64 a0_1, .bool a0_2, .bool a0_3, .int .i64 a0_4, .int .i64 a0_5, .int .i64 a0_6, .int .i64 a0_7, .int .i64 a0_8, .int .i64 a0_9] 23 (0, 0)) (by (with_reducible repeat (first | refine blk_drewN ?_ _ | refine blk_drew ?_ | refine blk_alloc ?_ _)); exact BK261.out) hb)
              have n1_ := Aside0.mk (blk_below (g := gb274) (o := .cells #[.int .i64 t263, .int .i64 t264, .bool t265, .bool t266, .int .i64 t267, .int .i64 t268, .int .i64 t269, .int .i64 t270, .int .i64 t271, .int .i64 t272] 23 (0, 0)) (by (with_reducible repeat (first | refine blk_drewN ?_ _ | refine blk_drew ?_ | refine blk_alloc ?_ _)); exact BK274.out) hb)
              have n2_ := Aside0.mk (blk_below (g := gb286) (o := .cells #[.int .i64 t275, .int .i64 t276, .bool t277, .bool t278, .int .i64 t279, .int .i64 t280, .int .i64 t281, .int .i64 t282, .int .i64 t283, .int .i64 t284] 23 (0, 0)) (by (with_reducible repeat (first | refine blk_drewN ?_ _ | refine blk_drew ?_ | refine blk_alloc ?_ _)); exact BK286.out) hb)
              have n3_ := Aside0.mk (below_step (by repeat (first | (with_reducible first | exact HB.out | apply below_alloc | apply pw_below_drewN | apply below_drew1 | refine below_set ?_ GE261.out | refine below_set ?_ GE274.out | refine below_set ?_ GE286.out) | exact HB.out)) hb)
              clear BK261
              clear BK274
              clear BK286
              clear HB
              have BK261 := n0_
              have BK274 := n1_
              have BK286 := n2_
              have HB := n3_
              clear n0_ n1_ n2_ n3_
              (try clear hb)
              (try clear hb2)
              (try clear hk)
              (try clear hi)
              refine hK.out _ _ ⟨(blk_cell BK261.out 0).trans rfl, (blk_cell BK261.out 1).trans rfl, (blk_cell BK261.out 2).trans rfl, (blk_cell BK261.out 3).trans rfl, (blk_cell BK261.out 4).trans rfl, (blk_cell BK261.out 5).trans rfl, (blk_cell BK261.out 6).trans rfl, (blk_cell BK261.out 7).trans rfl, (blk_cell BK261.out 8).trans rfl, (blk_cell BK261.out 9).trans rfl, (blk_cell BK274.out 0).trans rfl, (blk_cell BK274.out 1).trans rfl, (blk_cell BK274.out 2).trans rfl, (blk_cell BK274.out 3).trans rfl, (blk_cell BK274.out 4).trans rfl, (blk_cell BK274.out 5).trans rfl, (blk_cell BK274.out 6).trans rfl, (blk_cell BK274.out 7).trans rfl, (blk_cell BK274.out 8).trans rfl, (blk_cell BK274.out 9).trans rfl, (blk_cell BK286.out 0).trans rfl, (blk_cell BK286.out 1).trans rfl, (blk_cell BK286.out 2).trans rfl, (blk_cell BK286.out 3).trans rfl, (blk_cell BK286.out 4).trans rfl, (blk_cell BK286.out 5).trans rfl, (blk_cell BK286.out 6).trans rfl, (blk_cell BK286.out 7).trans rfl, (blk_cell BK286.out 8).trans rfl, (blk_cell BK286.out 9).trans rfl⟩ (fun hHeld => ?_)
              clear hK K
              refine norm_ (a' := ?_) ?_ ?_
              rotate_left
              · show Act.put _ (some 37) _ = _
                simp only [Act.put, List.setIfInBounds_toArray, List.set_cons_zero, List.set_cons_succ, i64_w, i32_w]
                rfl
              refine one_ (i := 12) (N := some 39) #[true, true, true, true, true, true, true, true, true, true, true, true, true, false, false, false, false, false, false, false, false, false, false, false, false, false, false, false, false, false, false] rfl rfl (one_of HT_.out (by kernel_rfl)) (by decide) (fun K hK => ?_)
              refine goes_ Try.func14 (by kernel_rfl) rfl #[.agg #[.int .i64 a0_0, .int .i64 a0_1, .bool a0_2, .bool a0_3, .int .i64 a0_4, .int .i64 a0_5, .int .i64 a0_6, .int .i64 a0_7, .int .i64 a0_8, .int .i64 a0_9]] (by rfl) rfl rfl (by (try simp only [List.map_toArray, List.map_cons, List.map_nil]); first | done | rfl | (simp only [List.length_drop, List.length_take]; rfl)) ?_
              with_reducible refine (miradorref13_Bytes.calls k a0_0 a0_1 a0_2 a0_3 a0_4 a0_5 a0_6 a0_7 a0_8 a0_9 t290 _ A14.out).mono ?_
              rintro e w36 ⟨rfl, hb⟩
              refine ⟨_, rfl, ?_⟩
              have n0_ := Aside0.mk (blk_below (g := gb261) (o := .cells #[.int .i64 a0_0, .int .i64 a0_1, .bool a0_2, .bool a0_3, .int .i64 a0_4, .int .i64 a0_5, .int .i64 a0_6, .int .i64 a0_7, .int .i64 a0_8, .int .i64 a0_9] 23 (0, 0)) (by (with_reducible repeat (first | refine blk_drewN ?_ _ | refine blk_drew ?_ | refine blk_alloc ?_ _)); exact BK261.out) hb)
              have n1_ := Aside0.mk (blk_below (g := gb274) (o := .cells #[.int .i64 t263, .int .i64 t264, .bool t265, .bool t266, .int .i64 t267, .int .i64 t268, .int .i64 t269, .int .i64 t270, .int .i64 t271, .int .i64 t272] 23 (0, 0)) (by (with_reducible repeat (first | refine blk_drewN ?_ _ | refine blk_drew ?_ | refine blk_alloc ?_ _)); exact BK274.out) hb)
              have n2_ := Aside0.mk (blk_below (g := gb286) (o := .cells #[.int .i64 t275, .int .i64 t276, .bool t277, .bool t278, .int .i64 t279, .int .i64 t280, .int .i64 t281, .int .i64 t282, .int .i64 t283, .int .i64 t284] 23 (0, 0)) (by (with_reducible repeat (first | refine blk_drewN ?_ _ | refine blk_drew ?_ | refine blk_alloc ?_ _)); exact BK286.out) hb)
              have n3_ := Aside0.mk (below_step (by repeat (first | (with_reducible first | exact HB.out | apply below_alloc | apply pw_below_drewN | apply below_drew1 | refine below_set ?_ GE261.out | refine below_set ?_ GE274.out | refine below_set ?_ GE286.out) | exact HB.out)) hb)
              clear BK261
              clear BK274
              clear BK286
              clear HB
              have BK261 := n0_
              have BK274 := n1_
              have BK286 := n2_
              have HB := n3_
              clear n0_ n1_ n2_ n3_
              (try clear hb)
              (try clear hb2)
              (try clear hk)
              (try clear hi)
              refine hK.out _ _ ⟨(blk_cell BK261.out 0).trans rfl, (blk_cell BK261.out 1).trans rfl, (blk_cell BK261.out 2).trans rfl, (blk_cell BK261.out 3).trans rfl, (blk_cell BK261.out 4).trans rfl, (blk_cell BK261.out 5).trans rfl, (blk_cell BK261.out 6).trans rfl, (blk_cell BK261.out 7).trans rfl, (blk_cell BK261.out 8).trans rfl, (blk_cell BK261.out 9).trans rfl, (blk_cell BK274.out 0).trans rfl, (blk_cell BK274.out 1).trans rfl, (blk_cell BK274.out 2).trans rfl, (blk_cell BK274.out 3).trans rfl, (blk_cell BK274.out 4).trans rfl, (blk_cell BK274.out 5).trans rfl, (blk_cell BK274.out 6).trans rfl, (blk_cell BK274.out 7).trans rfl, (blk_cell BK274.out 8).trans rfl, (blk_cell BK274.out 9).trans rfl, (blk_cell BK286.out 0).trans rfl, (blk_cell BK286.out 1).trans rfl, (blk_cell BK286.out 2).trans rfl, (blk_cell BK286.out 3).trans rfl, (blk_cell BK286.out 4).trans rfl, (blk_cell BK286.out 5).trans rfl, (blk_cell BK286.out 6).trans rfl, (blk_cell BK286.out 7).trans rfl, (blk_cell BK286.out 8).trans rfl, (blk_cell BK286.out 9).trans rfl⟩ (fun hHeld => ?_)
              clear hK K
              refine norm_ (a' := ?_) ?_ ?_
              rotate_left
              · show Act.put _ (some 39) _ = _
                simp only [Act.put, List.setIfInBounds_toArray, List.set_cons_zero, List.set_cons_succ, i64_w, i32_w]
                rfl
              refine pure_ (i := 13) (N := some 40) (v := ?_) (a' := ?_) #[true, true, true, true, true, true, true, true, true, true, true, true, true, true, false, false, false, false, false, false, false, false, false, false, false, false, false, false, false, false, false] rfl rfl (any_of HT_.out (by kernel_rfl)) (fun _ _ _ h => h) (Or.inl ⟨by rfl, ?_⟩) ?_ ?_
              rotate_left
              · intro w'
                go_simp
                with_reducible rfl
              rotate_left
              · simp only [Act.put, List.setIfInBounds_toArray, List.set_cons_zero, List.set_cons_succ, i64_w, i32_w]
                rfl
              refine pure_ (i := 14) (N := some 41) (v := ?_) (a' := ?_) #[true, true, true, true, true, true, true, true, true, true, true, true, true, true, true, false, false, false, false, false, false, false, false, false, false, false, false, false, false, false, false] rfl rfl (any_of HT_.out (by kernel_rfl)) (fun _ _ _ h => h) (Or.inl ⟨by rfl, ?_⟩) ?_ ?_
              rotate_left
              · intro w'
                go_simp
                with_reducible rfl
              rotate_left
              · simp only [Act.put, List.setIfInBounds_toArray, List.set_cons_zero, List.set_cons_succ, i64_w, i32_w]
                rfl
              refine pure_ (i := 15) (N := some 42) (v := ?_) (a' := ?_) #[true, true, true, true, true, true, true, true, true, true, true, true, true, true, true, true, false, false, false, false, false, false, false, false, false, false, false, false, false, false, false] rfl rfl (any_of HT_.out (by kernel_rfl)) (fun _ _ _ h => h) (Or.inl ⟨by rfl, ?_⟩) ?_ ?_
              rotate_left
              · intro w'
                go_simp
                with_reducible rfl
              rotate_left
              · simp only [Act.put, List.setIfInBounds_toArray, List.set_cons_zero, List.set_cons_succ, i64_w, i32_w]
                rfl
              refine take_ (i := 16) (N := some 43) (v := ?_) (a' := ?_) #[true, true, true, true, true, true, true, true, true, true, true, true, true, true, true, true, true, false, false, false, false, false, false, false, false, false, false, false, false, false, false] rfl rfl (take_ofW HT_.out HW_.out (by kernel_rfl)) (fun _ _ _ h => h) (Or.inl ⟨by rfl, ?_⟩) hHeld ?_ ?_
              rotate_left
              · rintro w' ⟨s0, s1, s2, s3, s4, s5, s6, s7, s8, s9, s10, s11, s12, s13, s14, s15, s16, s17, s18, s19, s20, s21, s22, s23, s24, s25, s26, s27, s28, s29⟩
                go_simp
                with_reducible rfl
              rotate_left
              · simp only [Act.put, List.setIfInBounds_toArray, List.set_cons_zero, List.set_cons_succ, i64_w, i32_w]
                rfl
              refine take_ (i := 17) (N := some 44) (v := ?_) (a' := ?_) #[true, true, true, true, true, true, true, true, true, true, true, true, true, true, true, true, true, true, false, false, false, false, false, false, false, false, false, false, false, false, false] rfl rfl (take_ofW HT_.out HW_.out (by kernel_rfl)) (fun _ _ _ h => h) (Or.inl ⟨by rfl, ?_⟩) hHeld ?_ ?_
              rotate_left
              · rintro w' ⟨s0, s1, s2, s3, s4, s5, s6, s7, s8, s9, s10, s11, s12, s13, s14, s15, s16, s17, s18, s19, s20, s21, s22, s23, s24, s25, s26, s27, s28, s29⟩
                go_simp
                with_reducible rfl
              rotate_left
              · simp only [Act.put, List.setIfInBounds_toArray, List.set_cons_zero, List.set_cons_succ, i64_w, i32_w]
                rfl
              refine pure_ (i := 18) (N := some 45) (v := ?_) (a' := ?_) #[true, true, true, true, true, true, true, true, true, true, true, true, true, true, true, true, true, true, true, false, false, false, false, false, false, false, false, false, false, false, false] rfl rfl (any_of HT_.out (by kernel_rfl)) (fun _ _ _ h => h) (Or.inl ⟨by rfl, ?_⟩) ?_ ?_
              rotate_left
              · intro w'
                go_simp
                with_reducible rfl
              rotate_left
              · simp only [Act.put, List.setIfInBounds_toArray, List.set_cons_zero, List.set_cons_succ, i64_w, i32_w]
                rfl
              refine pure_ (i := 19) (N := some 46) (v := ?_) (a' := ?_) #[true, true, true, true, true, true, true, true, true, true, true, true, true, true, true, true, true, true, true, true, false, false, false, false, false, false, false, false, false, false, false] rfl rfl (any_of HT_.out (by kernel_rfl)) (fun _ _ _ h => h) (Or.inl ⟨by rfl, ?_⟩) ?_ ?_
              rotate_left
              · intro w'
                go_simp
                with_reducible rfl
              rotate_left
              · simp only [Act.put, List.setIfInBounds_toArray, List.set_cons_zero, List.set_cons_succ, i64_w, i32_w]
                rfl
              refine pure_ (i := 20) (N := some 47) (v := ?_) (a' := ?_) #[true, true, true, true, true, true, true, true, true, true, true, true, true, true, true, true, true, true, true, true, true, false, false, false, false, false, false, false, false, false, false] rfl rfl (any_of HT_.out (by kernel_rfl)) (fun _ _ _ h => h) (Or.inl ⟨by rfl, ?_⟩) ?_ ?_
              rotate_left
              · intro w'
                go_simp
                with_reducible rfl
              rotate_left
              · simp only [Act.put, List.setIfInBounds_toArray, List.set_cons_zero, List.set_cons_succ, i64_w, i32_w]
                rfl
              refine pure_ (i := 21) (N := some 48) (v := ?_) (a' := ?_) #[true, true, true, true, true, true, true, true, true, true, true, true, true, true, true, true, true, true, true, true, true, true, false, false, false, false, false, false, false, false, false] rfl rfl (any_of HT_.out (by kernel_rfl)) (fun _ _ _ h => h) (Or.inl ⟨by rfl, ?_⟩) ?_ ?_
              rotate_left
              · intro w'
                go_simp
                with_reducible rfl
              rotate_left
              · simp only [Act.put, List.setIfInBounds_toArray, List.set_cons_zero, List.set_cons_succ, i64_w, i32_w]
                rfl
              refine pure_ (i := 22) (N := some 49) (v := ?_) (a' := ?_) #[true, true, true, true, true, true, true, true, true, true, true, true, true, true, true, true, true, true, true, true, true, true, true, false, false, false, false, false, false, false, false] rfl rfl (any_of HT_.out (by kernel_rfl)) (fun _ _ _ h => h) (Or.inl ⟨by rfl, ?_⟩) ?_ ?_
              rotate_left
              · intro w'
                go_simp
                with_reducible rfl
              rotate_left
              · simp only [Act.put, List.setIfInBounds_toArray, List.set_cons_zero, List.set_cons_succ, i64_w, i32_w]
                rfl
              refine pure_ (i := 23) (N := some 50) (v := ?_) (a' := ?_) #[true, true, true, true, true, true, true, true, true, true, true, true, true, true, true, true, true, true, true, true, true, true, true, true, false, false, false, false, false, false, false] rfl rfl (any_of HT_.out (by kernel_rfl)) (fun _ _ _ h => h) (Or.inl ⟨by rfl, ?_⟩) ?_ ?_
              rotate_left
              · intro w'
                go_simp
                with_reducible rfl
              rotate_left
              · simp only [Act.put, List.setIfInBounds_toArray, List.set_cons_zero, List.set_cons_succ, i64_w, i32_w]
                rfl
              refine pure_ (i := 24) (N := some 51) (v := ?_) (a' := ?_) #[true, true, true, true, true, true, true, true, true, true, true, true, true, true, true, true, true, true, true, true, true, true, true, true, true, false, false, false, false, false, false] rfl rfl (any_of HT_.out (by kernel_rfl)) (fun _ _ _ h => h) (Or.inl ⟨by rfl, ?_⟩) ?_ ?_
              rotate_left
              · intro w'
                go_simp
                with_reducible rfl
              rotate_left
              · simp only [Act.put, List.setIfInBounds_toArray, List.set_cons_zero, List.set_cons_succ, i64_w, i32_w]
                rfl
              refine pure_ (i := 25) (N := some 52) (v := ?_) (a' := ?_) #[true, true, true, true, true, true, true, true, true, true, true, true, true, true, true, true, true, true, true, true, true, true, true, true, true, true, false, false, false, false, false] rfl rfl (any_of HT_.out (by kernel_rfl)) (fun _ _ _ h => h) (Or.inl ⟨by rfl, ?_⟩) ?_ ?_
              rotate_left
              · intro w'
                go_simp
                with_reducible rfl
              rotate_left
              · simp only [Act.put, List.setIfInBounds_toArray, List.set_cons_zero, List.set_cons_succ, i64_w, i32_w]
                rfl
              refine one_ (i := 26) (N := some 53) #[true, true, true, true, true, true, true, true, true, true, true, true, true, true, true, true, true, true, true, true, true, true, true, true, true, true, true, false, false, false, false] rfl rfl (one_of HT_.out (by kernel_rfl)) (by decide) (fun K hK => ?_)
              refine goes_ Try.func15 (by kernel_rfl) rfl #[] (by rfl) rfl rfl (by (try simp only [List.map_toArray, List.map_cons, List.map_nil]); first | done | rfl | (simp only [List.length_drop, List.length_take]; rfl)) ?_
              with_reducible refine (format_Standard.calls  t291 t292 t293 t294 t295 t296 t297 t298 t299 t300 _ A18.out).mono ?_
              rintro e w37 ⟨rfl, hb⟩
              refine ⟨_, rfl, ?_⟩
              have n0_ := Aside0.mk (blk_below (g := gb261) (o := .cells #[.int .i64 a0_0, .int .i64 a0_1, .bool a0_2, .bool a0_3, .int .i64 a0_4, .int .i64 a0_5, .int .i64 a0_6, .int .i64 a0_7, .int .i64 a0_8, .int .i64 a0_9] 23 (0, 0)) (by (with_reducible repeat (first | refine blk_drewN ?_ _ | refine blk_drew ?_ | refine blk_alloc ?_ _)); exact BK261.out) hb)
              have n1_ := Aside0.mk (blk_below (g := gb274) (o := .cells #[.int .i64 t263, .int .i64 t264, .bool t265, .bool t266, .int .i64 t267, .int .i64 t268, .int .i64 t269, .int .i64 t270, .int .i64 t271, .int .i64 t272] 23 (0, 0)) (by (with_reducible repeat (first | refine blk_drewN ?_ _ | refine blk_drew ?_ | refine blk_alloc ?_ _)); exact BK274.out) hb)
              have n2_ := Aside0.mk (blk_below (g := gb286) (o := .cells #[.int .i64 t275, .int .i64 t276, .bool t277, .bool t278, .int .i64 t279, .int .i64 t280, .int .i64 t281, .int .i64 t282, .int .i64 t283, .int .i64 t284] 23 (0, 0)) (by (with_reducible repeat (first | refine blk_drewN ?_ _ | refine blk_drew ?_ | refine blk_alloc ?_ _)); exact BK286.out) hb)
              have n3_ := Aside0.mk (below_step (by repeat (first | (with_reducible first | exact HB.out | apply below_alloc | apply pw_below_drewN | apply below_drew1 | refine below_set ?_ GE261.out | refine below_set ?_ GE274.out | refine below_set ?_ GE286.out) | exact HB.out)) hb)
              clear BK261
              clear BK274
              clear BK286
              clear HB
              have BK261 := n0_
              have BK274 := n1_
              have BK286 := n2_
              have HB := n3_
              clear n0_ n1_ n2_ n3_
              (try clear hb)
              (try clear hb2)
              (try clear hk)
              (try clear hi)
              refine hK.out _ _ ⟨(blk_cell BK261.out 0).trans rfl, (blk_cell BK261.out 1).trans rfl, (blk_cell BK261.out 2).trans rfl, (blk_cell BK261.out 3).trans rfl, (blk_cell BK261.out 4).trans rfl, (blk_cell BK261.out 5).trans rfl, (blk_cell BK261.out 6).trans rfl, (blk_cell BK261.out 7).trans rfl, (blk_cell BK261.out 8).trans rfl, (blk_cell BK261.out 9).trans rfl, (blk_cell BK274.out 0).trans rfl, (blk_cell BK274.out 1).trans rfl, (blk_cell BK274.out 2).trans rfl, (blk_cell BK274.out 3).trans rfl, (blk_cell BK274.out 4).trans rfl, (blk_cell BK274.out 5).trans rfl, (blk_cell BK274.out 6).trans rfl, (blk_cell BK274.out 7).trans rfl, (blk_cell BK274.out 8).trans rfl, (blk_cell BK274.out 9).trans rfl, (blk_cell BK286.out 0).trans rfl, (blk_cell BK286.out 1).trans rfl, (blk_cell BK286.out 2).trans rfl, (blk_cell BK286.out 3).trans rfl, (blk_cell BK286.out 4).trans rfl, (blk_cell BK286.out 5).trans rfl, (blk_cell BK286.out 6).trans rfl, (blk_cell BK286.out 7).trans rfl, (blk_cell BK286.out 8).trans rfl, (blk_cell BK286.out 9).trans rfl⟩ (fun hHeld => ?_)
              clear hK K
              refine norm_ (a' := ?_) ?_ ?_
              rotate_left
              · show Act.put _ (some 53) _ = _
                simp only [Act.put, List.setIfInBounds_toArray, List.set_cons_zero, List.set_cons_succ, i64_w, i32_w]
                rfl
              refine one_ (i := 27) (N := some 54) #[true, true, true, true, true, true, true, true, true, true, true, true, true, true, true, true, true, true, true, true, true, true, true, true, true, true, true, true, false, false, false] rfl rfl (one_of HT_.out (by kernel_rfl)) (by decide) (fun K hK => ?_)
              refine goes_ Try.func16 (by kernel_rfl) rfl #[] (by rfl) rfl rfl (by (try simp only [List.map_toArray, List.map_cons, List.map_nil]); first | done | rfl | (simp only [List.length_drop, List.length_take]; rfl)) ?_
              with_reducible refine (miradorref13_Standard.calls  t301 t302 t303 t304 t305 t306 t307 t308 t309 t310 _ A19.out).mono ?_
              rintro e w38 ⟨rfl, hb⟩
              refine ⟨_, rfl, ?_⟩
              have n0_ := Aside0.mk (blk_below (g := gb261) (o := .cells #[.int .i64 a0_0, .int .i64 a0_1, .bool a0_2, .bool a0_3, .int .i64 a0_4, .int .i64 a0_5, .int .i64 a0_6, .int .i64 a0_7, .int .i64 a0_8, .int .i64 a0_9] 23 (0, 0)) (by (with_reducible repeat (first | refine blk_drewN ?_ _ | refine blk_drew ?_ | refine blk_alloc ?_ _)); exact BK261.out) hb)
              have n1_ := Aside0.mk (blk_below (g := gb274) (o := .cells #[.int .i64 t263, .int .i64 t264, .bool t265, .bool t266, .int .i64 t267, .int .i64 t268, .int .i64 t269, .int .i64 t270, .int .i64 t271, .int .i64 t272] 23 (0, 0)) (by (with_reducible repeat (first | refine blk_drewN ?_ _ | refine blk_drew ?_ | refine blk_alloc ?_ _)); exact BK274.out) hb)
              have n2_ := Aside0.mk (blk_below (g := gb286) (o := .cells #[.int .i64 t275, .int .i64 t276, .bool t277, .bool t278, .int .i64 t279, .int .i64 t280, .int .i64 t281, .int .i64 t282, .int .i64 t283, .int .i64 t284] 23 (0, 0)) (by (with_reducible repeat (first | refine blk_drewN ?_ _ | refine blk_drew ?_ | refine blk_alloc ?_ _)); exact BK286.out) hb)
              have n3_ := Aside0.mk (below_step (by repeat (first | (with_reducible first | exact HB.out | apply below_alloc | apply pw_below_drewN | apply below_drew1 | refine below_set ?_ GE261.out | refine below_set ?_ GE274.out | refine below_set ?_ GE286.out) | exact HB.out)) hb)
              clear BK261
              clear BK274
              clear BK286
              clear HB
              have BK261 := n0_
              have BK274 := n1_
              have BK286 := n2_
              have HB := n3_
              clear n0_ n1_ n2_ n3_
              (try clear hb)
              (try clear hb2)
              (try clear hk)
              (try clear hi)
              refine hK.out _ _ ⟨(blk_cell BK261.out 0).trans rfl, (blk_cell BK261.out 1).trans rfl, (blk_cell BK261.out 2).trans rfl, (blk_cell BK261.out 3).trans rfl, (blk_cell BK261.out 4).trans rfl, (blk_cell BK261.out 5).trans rfl, (blk_cell BK261.out 6).trans rfl, (blk_cell BK261.out 7).trans rfl, (blk_cell BK261.out 8).trans rfl, (blk_cell BK261.out 9).trans rfl, (blk_cell BK274.out 0).trans rfl, (blk_cell BK274.out 1).trans rfl, (blk_cell BK274.out 2).trans rfl, (blk_cell BK274.out 3).trans rfl, (blk_cell BK274.out 4).trans rfl, (blk_cell BK274.out 5).trans rfl, (blk_cell BK274.out 6).trans rfl, (blk_cell BK274.out 7).trans rfl, (blk_cell BK274.out 8).trans rfl, (blk_cell BK274.out 9).trans rfl, (blk_cell BK286.out 0).trans rfl, (blk_cell BK286.out 1).trans rfl, (blk_cell BK286.out 2).trans rfl, (blk_cell BK286.out 3).trans rfl, (blk_cell BK286.out 4).trans rfl, (blk_cell BK286.out 5).trans rfl, (blk_cell BK286.out 6).trans rfl, (blk_cell BK286.out 7).trans rfl, (blk_cell BK286.out 8).trans rfl, (blk_cell BK286.out 9).trans rfl⟩ (fun hHeld => ?_)
              clear hK K
              refine norm_ (a' := ?_) ?_ ?_
              rotate_left
              · show Act.put _ (some 54) _ = _
                simp only [Act.put, List.setIfInBounds_toArray, List.set_cons_zero, List.set_cons_succ, i64_w, i32_w]
                rfl
              refine pure_ (i := 28) (N := some 55) (v := ?_) (a' := ?_) #[true, true, true, true, true, true, true, true, true, true, true, true, true, true, true, true, true, true, true, true, true, true, true, true, true, true, true, true, true, false, false] rfl rfl (any_of HT_.out (by kernel_rfl)) (fun _ _ _ h => h) (Or.inl ⟨by rfl, ?_⟩) ?_ ?_
              rotate_left
              · intro w'
                go_simp
                with_reducible rfl
              rotate_left
              · simp only [Act.put, List.setIfInBounds_toArray, List.set_cons_zero, List.set_cons_succ, i64_w, i32_w]
                rfl
              refine pure_ (i := 29) (N := some 56) (v := ?_) (a' := ?_) #[true, true, true, true, true, true, true, true, true, true, true, true, true, true, true, true, true, true, true, true, true, true, true, true, true, true, true, true, true, true, false] rfl rfl (any_of HT_.out (by kernel_rfl)) (fun _ _ _ h => h) (Or.inl ⟨by rfl, ?_⟩) ?_ ?_
              rotate_left
              · intro w'
                go_simp
                with_reducible rfl
              rotate_left
              · simp only [Act.put, List.setIfInBounds_toArray, List.set_cons_zero, List.set_cons_succ, i64_w, i32_w]
                rfl
              refine pure_ (i := 30) (N := some 4) (v := ?_) (a' := ?_) #[true, true, true, true, true, true, true, true, true, true, true, true, true, true, true, true, true, true, true, true, true, true, true, true, true, true, true, true, true, true, true] rfl rfl (any_of HT_.out (by kernel_rfl)) (fun _ _ _ h => h) (Or.inl ⟨by rfl, ?_⟩) ?_ ?_
              rotate_left
              · intro w'
                go_simp
                with_reducible rfl
              rotate_left
              · simp only [Act.put, List.setIfInBounds_toArray, List.set_cons_zero, List.set_cons_succ, i64_w, i32_w]
                rfl
              refine done_ (done_of HT_.out (by kernel_rfl)) ?_
              try go_wp2
              go_ret
              exact ⟨by first | rfl | (simp [errW_none, errW_some] <;> rfl) | (simp [*, errW_none, errW_some] <;> rfl), by repeat (first | (with_reducible first | exact HB.out | apply below_alloc | apply pw_below_drewN | apply below_drew1 | refine below_set ?_ GE261.out | refine below_set ?_ GE274.out | refine below_set ?_ GE286.out) | exact HB.out)⟩
            · rw [if_neg c17] at H
              have c17b0 : (t273 == t285) = false := beq_eq_false_iff_ne.mpr c17
              have c17b1 : (t273 != t285) = true := bne_iff_ne.mpr c17
              rw [HRT.out] at H
              exact absurd (Option.some.inj H) (by decide)
          · rw [if_neg c16] at H
            have c16b0 : (t263 == t275 && (t264 == t276 && (t265 == t277 && (t266 == t278 && (t267 == t279 && (t268 == t280 && (t269 == t281 && (t270 == t282 && (t271 == t283 && (t272 == t284)))))))))) = false := by simpa using c16
            (try (have c16b1 : decide (t263 = t275 && (t264 == t276 && (t265 == t277 && (t266 == t278 && (t267 == t279 && (t268 == t280 && (t269 == t281 && (t270 == t282 && (t271 == t283 && (t272 == t284)))))))))) = false := by simpa using c16))
            (try (have c16b2 : (t263 == t275 && (t264 == t276 && (t265 == t277 && (t266 == t278 && (t267 == t279 && (t268 == t280 && (t269 == t281 && (t270 == t282 && (t271 == t283 && (t272 == t284)))))))))) = false := by simpa using c16))
            (try (have c16b3 : ¬ (t263 = t275 && (t264 == t276 && (t265 == t277 && (t266 == t278 && (t267 == t279 && (t268 == t280 && (t269 == t281 && (t270 == t282 && (t271 == t283 && (t272 == t284)))))))))) := by simpa using c16))
            clear c16
            rw [HRT.out] at H
            exact absurd (Option.some.inj H) (by decide)
        · rw [if_neg c15] at H
          have c15b0 : (t289.toList == t290.toList) = false := beq_eq_false_iff_ne.mpr c15
          have c15b1 : (t289.toList != t290.toList) = true := bne_iff_ne.mpr c15
          rw [HRT.out] at H
          exact absurd (Option.some.inj H) (by decide)
      · rw [if_neg c12] at H
        have c12b0 : (t287 == t288) = false := by simpa using c12
        (try (have c12b1 : decide (t287 = t288) = false := by simpa using c12))
        (try (have c12b2 : (t287 == t288) = false := by simpa using c12))
        (try (have c12b3 : ¬ (t287 = t288) := by simpa using c12))
        clear c12
        rw [HRT.out] at H
        exact absurd (Option.some.inj H) (by decide)
  · replace c4 := Bool.eq_false_iff.mpr c4
    subst c4
    have H1 : (some false) = some r := by rw [if_neg (show ¬ (false = true) by decide)] at H; exact H
    clear H
    have H := H1
    clear H1
    rw [HRT.out] at H
    exact absurd (Option.some.inj H) (by decide)

end Go.Proofs.Ytaielfghgmghgaa.X
