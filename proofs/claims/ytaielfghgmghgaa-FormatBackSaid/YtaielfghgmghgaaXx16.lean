/- What each Go function that these laws use answers: as a Lean function, with the proof that the machine's call comes to it. Written by a program of this session (xprint.py). -/
import Derived.Test.YtaielfghgmghgaaXx0
import Derived.Test.YtaielfghgmghgaaXx1
import Derived.Test.YtaielfghgmghgaaXx2
import Derived.Test.YtaielfghgmghgaaXx3
import Derived.Test.YtaielfghgmghgaaXx4
import Derived.Test.YtaielfghgmghgaaXx5
import Derived.Test.YtaielfghgmghgaaXx12
import Derived.Test.YtaielfghgmghgaaXx13
import Derived.Test.YtaielfghgmghgaaXx15
namespace Go.Proofs.Ytaielfghgmghgaa.X
open Go.RowKit Go.Proofs.YtaielfghgmghgaaW.PrintWords Go.Proofs.YtaielfghgmghgaaW.PrintLast Go.Proofs.YtaielfghgmghgaaW.PrintMore
attribute [local go_sem] max2_int min2_int max_two min_two max_three min_three max_four min_four   -- for this text's walks alone
set_option linter.unusedVariables false
set_option linter.unusedSimpArgs false

attribute [local go_sem high] eqA23
/-! ### miradorlaw13_FormatBack: function 7 -/
mutual
def miradorlaw13_FormatBack.j0 : Nat → Int → ByteArray → Bool → Bool → Int → Int → Bool → Bool → Int → Int → Int → Int → Int → Int → Option (Bool)
  | 0, _, _, _, _, _, _, _, _, _, _, _, _, _, _ => none
  | k + 1, x1, x2, x7, x28, x388000, x388001, x388002, x388003, x388004, x388005, x388006, x388007, x388008, x388009 => if x28 = true then (some x7) else ((format_Bytes.f x388000 x388001 x388002 x388003 x388004 x388005 x388006 x388007 x388008 x388009).bind fun t390 => (if t390.size + x2.size ≤ 9223372036854775807 then ((format_Parse.f (t390 ++ x2)).bind fun bt391 => (if (!(bt391.1 == x388000) || (!(bt391.2.1 == x388001) || (!(bt391.2.2.1 == x388002) || (!(bt391.2.2.2.1 == x388003) || (!(bt391.2.2.2.2.1 == x388004) || (!(bt391.2.2.2.2.2.1 == x388005) || (!(bt391.2.2.2.2.2.2.1 == x388006) || (!(bt391.2.2.2.2.2.2.2.1 == x388007) || (!(bt391.2.2.2.2.2.2.2.2.1 == x388008) || (!(bt391.2.2.2.2.2.2.2.2.2.1 == x388009))))))))))) = true then (miradorlaw13_FormatBack.j1 k x1 x2 x7 true x388000 x388001 x388002 x388003 x388004 x388005 x388006 x388007 x388008 x388009) else (if bt391.2.2.2.2.2.2.2.2.2.2 = 0 then ((format_Bytes.f x388000 x388001 x388002 x388003 x388004 x388005 x388006 x388007 x388008 x388009).bind fun t403 => (miradorlaw13_FormatBack.j1 k x1 x2 x7 ((t403.size : Int) != 16) x388000 x388001 x388002 x388003 x388004 x388005 x388006 x388007 x388008 x388009)) else (miradorlaw13_FormatBack.j1 k x1 x2 x7 true x388000 x388001 x388002 x388003 x388004 x388005 x388006 x388007 x388008 x388009)))) else (none)))
def miradorlaw13_FormatBack.j1 : Nat → Int → ByteArray → Bool → Bool → Int → Int → Bool → Bool → Int → Int → Int → Int → Int → Int → Option (Bool)
  | 0, _, _, _, _, _, _, _, _, _, _, _, _, _, _ => none
  | k + 1, x1, x2, x7, x50, x388000, x388001, x388002, x388003, x388004, x388005, x388006, x388007, x388008, x388009 => if x50 = true then (some false) else (if 0 ≤ x388000 then ((format_Put.f k x388000 x388001 x388002 x388003 x388004 x388005 x388006 x388007 x388008 x388009 x1).bind fun t404 => (if t404.size + x2.size ≤ 9223372036854775807 then ((format_Get.f k x388000 x388001 x388002 x388003 x388004 x388005 x388006 x388007 x388008 x388009 (t404 ++ x2)).bind fun bt405 => ((format_Value.f x388000 x388001 x388002 x388003 x388004 x388005 x388006 x388007 x388008 x388009 x1).bind fun t407 => ((format_CPut.f k x388000 x388001 x388002 x388003 x388004 x388005 x388006 x388007 x388008 x388009 t407).bind fun t408 => (if t408.size + x2.size ≤ 9223372036854775807 then ((format_CGet.f k x388000 x388001 x388002 x388003 x388004 x388005 x388006 x388007 x388008 x388009 (t408 ++ x2)).bind fun bt409 => ((format_Compact.f x388000 x388001 x388002 x388003 x388004 x388005 x388006 x388007 x388008 x388009).bind fun bt411 => (if x7 = true then (if bt405.1 = (Go.bits .and .i64 x1 (wrap64 ((shl .i64 1 x388000) - 1))) then (if bt405.2 = 0 then (if bt409.1 = t407 then (if bt409.2 = 0 then ((format_Put.f k x388000 x388001 x388002 x388003 x388004 x388005 x388006 x388007 x388008 x388009 x1).bind fun t413 => ((format_Size.f x388000 x388001 x388002 x388003 x388004 x388005 x388006 x388007 x388008 x388009).bind fun t414 => (if (t413.size : Int) = t414 then ((format_CPut.f k x388000 x388001 x388002 x388003 x388004 x388005 x388006 x388007 x388008 x388009 t407).bind fun t415 => (if (t415.size : Int) = bt411.1 then (if t407 ≥ 0 then (some (decide (t407 < (shl .i64 1 x388000)))) else (some false)) else (some false))) else (some false)))) else (some false)) else (some false)) else (some false)) else (some false)) else (some false)))) else (none))))) else (none))) else (none))
end
def miradorlaw13_FormatBack.f (k : Nat) (a0_0 : Int) (a0_1 : Int) (a0_2 : Bool) (a0_3 : Bool) (a0_4 : Int) (a0_5 : Int) (a0_6 : Int) (a0_7 : Int) (a0_8 : Int) (a0_9 : Int) (a1 : Int) (a2 : ByteArray) : Option (Bool) := (miradorlaw13_works.f).bind fun t388 => (if t388 = true then (if (a2.size : Int) > 60 then (miradorlaw13_FormatBack.j0 k a1 a2 t388 true a0_0 a0_1 a0_2 a0_3 a0_4 a0_5 a0_6 a0_7 a0_8 a0_9) else ((format_Valid.f a0_0 a0_1 a0_2 a0_3 a0_4 a0_5 a0_6 a0_7 a0_8 a0_9).bind fun t389 => (miradorlaw13_FormatBack.j0 k a1 a2 t388 (!t389) a0_0 a0_1 a0_2 a0_3 a0_4 a0_5 a0_6 a0_7 a0_8 a0_9))) else (some false))
theorem miradorlaw13_FormatBack.mono_l : ∀ k, (∀ y0 y1 y2 y3 y4 y5 y6 y7 y8 y9 y10 y11 y12 y13, LeO (miradorlaw13_FormatBack.j0 k y0 y1 y2 y3 y4 y5 y6 y7 y8 y9 y10 y11 y12 y13) (miradorlaw13_FormatBack.j0 (k + 1) y0 y1 y2 y3 y4 y5 y6 y7 y8 y9 y10 y11 y12 y13)) ∧ (∀ y0 y1 y2 y3 y4 y5 y6 y7 y8 y9 y10 y11 y12 y13, LeO (miradorlaw13_FormatBack.j1 k y0 y1 y2 y3 y4 y5 y6 y7 y8 y9 y10 y11 y12 y13) (miradorlaw13_FormatBack.j1 (k + 1) y0 y1 y2 y3 y4 y5 y6 y7 y8 y9 y10 y11 y12 y13))
  | 0 => ⟨fun _ _ _ _ _ _ _ _ _ _ _ _ _ _ r h => by simp [miradorlaw13_FormatBack.j0] at h, fun _ _ _ _ _ _ _ _ _ _ _ _ _ _ r h => by simp [miradorlaw13_FormatBack.j1] at h⟩
  | k + 1 => by
    obtain ⟨ih0, ih1⟩ := miradorlaw13_FormatBack.mono_l k
    refine ⟨?_, ?_⟩
    · intro y0 y1 y2 y3 y4 y5 y6 y7 y8 y9 y10 y11 y12 y13
      unfold miradorlaw13_FormatBack.j0
      repeat' first
      | (with_reducible exact ih0 _ _ _ _ _ _ _ _ _ _ _ _ _ _)
      | (with_reducible exact ih1 _ _ _ _ _ _ _ _ _ _ _ _ _ _)
      | (with_reducible exact format_CGet.mono _ _ _ _ _ _ _ _ _ _ _ _)
      | (with_reducible exact format_CPut.mono _ _ _ _ _ _ _ _ _ _ _ _)
      | (with_reducible exact format_Get.mono _ _ _ _ _ _ _ _ _ _ _ _)
      | (with_reducible exact format_Put.mono _ _ _ _ _ _ _ _ _ _ _ _)
      | (with_reducible exact LeO.refl _)
      | (with_reducible exact LeO.none _)
      | (with_reducible refine LeO.ite ?_ ?_)
      | (with_reducible refine LeO.bind ?_ (fun _ => ?_))
      | exact ih0 _ _ _ _ _ _ _ _ _ _ _ _ _ _
      | exact ih1 _ _ _ _ _ _ _ _ _ _ _ _ _ _
      | exact format_CGet.mono _ _ _ _ _ _ _ _ _ _ _ _
      | exact format_CPut.mono _ _ _ _ _ _ _ _ _ _ _ _
      | exact format_Get.mono _ _ _ _ _ _ _ _ _ _ _ _
      | exact format_Put.mono _ _ _ _ _ _ _ _ _ _ _ _
      | exact LeO.none _
      | refine LeO.ite ?_ ?_
      | refine LeO.bind ?_ (fun _ => ?_)
    · intro y0 y1 y2 y3 y4 y5 y6 y7 y8 y9 y10 y11 y12 y13
      unfold miradorlaw13_FormatBack.j1
      repeat' first
      | (with_reducible exact ih0 _ _ _ _ _ _ _ _ _ _ _ _ _ _)
      | (with_reducible exact ih1 _ _ _ _ _ _ _ _ _ _ _ _ _ _)
      | (with_reducible exact format_CGet.mono _ _ _ _ _ _ _ _ _ _ _ _)
      | (with_reducible exact format_CPut.mono _ _ _ _ _ _ _ _ _ _ _ _)
      | (with_reducible exact format_Get.mono _ _ _ _ _ _ _ _ _ _ _ _)
      | (with_reducible exact format_Put.mono _ _ _ _ _ _ _ _ _ _ _ _)
      | (with_reducible exact LeO.refl _)
      | (with_reducible exact LeO.none _)
      | (with_reducible refine LeO.ite ?_ ?_)
      | (with_reducible refine LeO.bind ?_ (fun _ => ?_))
      | exact ih0 _ _ _ _ _ _ _ _ _ _ _ _ _ _
      | exact ih1 _ _ _ _ _ _ _ _ _ _ _ _ _ _
      | exact format_CGet.mono _ _ _ _ _ _ _ _ _ _ _ _
      | exact format_CPut.mono _ _ _ _ _ _ _ _ _ _ _ _
      | exact format_Get.mono _ _ _ _ _ _ _ _ _ _ _ _
      | exact format_Put.mono _ _ _ _ _ _ _ _ _ _ _ _
      | exact LeO.none _
      | refine LeO.ite ?_ ?_
      | refine LeO.bind ?_ (fun _ => ?_)
theorem miradorlaw13_FormatBack.mono : ∀ a0 a1 a2 a3 a4 a5 a6 a7 a8 a9 a10 a11 k, LeO (miradorlaw13_FormatBack.f k a0 a1 a2 a3 a4 a5 a6 a7 a8 a9 a10 a11) (miradorlaw13_FormatBack.f (k + 1) a0 a1 a2 a3 a4 a5 a6 a7 a8 a9 a10 a11) := by
  intro a0 a1 a2 a3 a4 a5 a6 a7 a8 a9 a10 a11 k
  obtain ⟨ih0, ih1⟩ := miradorlaw13_FormatBack.mono_l k
  unfold miradorlaw13_FormatBack.f
  repeat' first
      | (with_reducible exact ih0 _ _ _ _ _ _ _ _ _ _ _ _ _ _)
      | (with_reducible exact ih1 _ _ _ _ _ _ _ _ _ _ _ _ _ _)
      | (with_reducible exact format_CGet.mono _ _ _ _ _ _ _ _ _ _ _ _)
      | (with_reducible exact format_CPut.mono _ _ _ _ _ _ _ _ _ _ _ _)
      | (with_reducible exact format_Get.mono _ _ _ _ _ _ _ _ _ _ _ _)
      | (with_reducible exact format_Put.mono _ _ _ _ _ _ _ _ _ _ _ _)
      | (with_reducible exact LeO.refl _)
      | (with_reducible exact LeO.none _)
      | (with_reducible refine LeO.ite ?_ ?_)
      | (with_reducible refine LeO.bind ?_ (fun _ => ?_))
      | exact ih0 _ _ _ _ _ _ _ _ _ _ _ _ _ _
      | exact ih1 _ _ _ _ _ _ _ _ _ _ _ _ _ _
      | exact format_CGet.mono _ _ _ _ _ _ _ _ _ _ _ _
      | exact format_CPut.mono _ _ _ _ _ _ _ _ _ _ _ _
      | exact format_Get.mono _ _ _ _ _ _ _ _ _ _ _ _
      | exact format_Put.mono _ _ _ _ _ _ _ _ _ _ _ _
      | exact LeO.none _
      | refine LeO.ite ?_ ?_
      | refine LeO.bind ?_ (fun _ => ?_)
def miradorlaw13_FormatBack.T10 : Bool × List (List Nat × List Nat) := (true, [([], []), ([], []), ([], []), ([1, 2], [1, 2]), ([], []), ([3, 4], [3, 4]), ([0, 5, 3], [0, 5]), ([6], [6]), ([7], [7]), ([7], [7]), ([8, 6, 0, 1, 2, 3, 4, 5, 6, 7, 8], [8]), ([9, 10, 0, 1, 2, 3, 4, 5, 6, 7, 8, 9, 10], [9])])
def miradorlaw13_FormatBack.B10 : List Nat := [0, 0, 0, 6, 0, 30, 63, 127, 255, 255, 511, 2047]
theorem miradorlaw13_FormatBack.tab10 : rtab .any (opsOf Try.f7 10) = miradorlaw13_FormatBack.T10 := by kernel_rfl
theorem miradorlaw13_FormatBack.bits10 : waitsOk miradorlaw13_FormatBack.T10.2 miradorlaw13_FormatBack.B10 = true := by kernel_rfl
def miradorlaw13_FormatBack.T12 : Bool × List (List Nat × List Nat) := (true, [([], []), ([], []), ([], []), ([1, 2], [1, 2]), ([], []), ([3, 4], [3, 4]), ([0, 5, 3], [0, 5]), ([6], [6]), ([7], [7]), ([7], [7]), ([8, 6, 0, 1, 2, 3, 4, 5, 6, 7, 8], [8]), ([9, 10, 0, 1, 2, 3, 4, 5, 6, 7, 8, 9, 10], [9])])
def miradorlaw13_FormatBack.B12 : List Nat := [0, 0, 0, 6, 0, 30, 63, 127, 255, 255, 511, 2047]
theorem miradorlaw13_FormatBack.tab12 : rtab .any (opsOf Try.f7 12) = miradorlaw13_FormatBack.T12 := by kernel_rfl
theorem miradorlaw13_FormatBack.bits12 : waitsOk miradorlaw13_FormatBack.T12.2 miradorlaw13_FormatBack.B12 = true := by kernel_rfl
def miradorlaw13_FormatBack.T14 : Bool × List (List Nat × List Nat) := (true, [([], []), ([0], [0]), ([1], [1]), ([1], [1]), ([2, 3, 1], [1, 2, 3]), ([1, 4], [1, 4]), ([5, 1], [5]), ([6], [6]), ([7, 6], [6, 7]), ([6, 8], [6, 8]), ([9, 6], [9]), ([10], [10]), ([10], [10]), ([11, 12, 10], [10, 11, 12]), ([10, 13], [10, 13]), ([14, 10], [14]), ([15], [15]), ([16, 15], [15, 16]), ([15, 17], [15, 17]), ([18, 15], [18]), ([19], [19]), ([19], [19]), ([20, 21, 19, 19], [19, 20, 21]), ([22, 19], [19, 22]), ([19], [19]), ([24, 22, 19], [19, 24]), ([23, 25, 19], [19, 23, 25]), ([19, 26], [19, 26]), ([27, 25], [27]), ([28], [28]), ([28], [28]), ([29, 30, 28, 28], [28, 29, 30]), ([31, 28], [28, 31]), ([28], [28]), ([32, 33, 28], [28, 32, 33]), ([28, 34], [28, 34]), ([35, 31], [35]), ([36], [36]), ([37, 36], [36, 37]), ([36, 38], [36, 38]), ([39, 36], [39]), ([40], [40]), ([40], [40]), ([42, 40], [40, 42]), ([43, 40], [40, 43]), ([41, 44, 40], [40, 41, 44]), ([40, 45], [40, 45]), ([46, 40, 0, 1, 2, 3, 4, 5, 6, 7, 8, 9, 10, 11, 12, 13, 14, 15, 16, 17, 18, 19, 20, 21, 22, 23, 24, 25, 26, 27, 28, 29, 30, 31, 32, 33, 34, 35, 36, 37, 38, 39, 40, 41, 42, 43, 44, 45, 46], [46])])
def miradorlaw13_FormatBack.B14 : List Nat := [0, 1, 3, 3, 15, 31, 63, 127, 255, 511, 1023, 2047, 2047, 8191, 16383, 32767, 65535, 131071, 262143, 524287, 1048575, 1048575, 4194303, 8388607, 1048575, 25165823, 67108863, 134217727, 268435455, 536870911, 536870911, 2147483647, 4294967295, 536870911, 17179869183, 34359738367, 68719476735, 137438953471, 274877906943, 549755813887, 1099511627775, 2199023255551, 2199023255551, 6597069766655, 15393162788863, 35184372088831, 70368744177663, 140737488355327]
theorem miradorlaw13_FormatBack.tab14 : rtab .any (opsOf Try.f7 14) = miradorlaw13_FormatBack.T14 := by kernel_rfl
theorem miradorlaw13_FormatBack.bits14 : waitsOk miradorlaw13_FormatBack.T14.2 miradorlaw13_FormatBack.B14 = true := by kernel_rfl
set_option maxHeartbeats 8000000 in
set_option maxRecDepth 100000 in
theorem miradorlaw13_FormatBack.calls1 (k : Nat) (a0_0 : Int) (a0_1 : Int) (a0_2 : Bool) (a0_3 : Bool) (a0_4 : Int) (a0_5 : Int) (a0_6 : Int) (a0_7 : Int) (a0_8 : Int) (a0_9 : Int) (a1 : Int) (a2 : ByteArray) (r : Bool) (w : World) (hr_ : r = true) (h : miradorlaw13_FormatBack.f k a0_0 a0_1 a0_2 a0_3 a0_4 a0_5 a0_6 a0_7 a0_8 a0_9 a1 a2 = some r) :
    Calls Try.prog 7 #[.agg #[.int .i64 a0_0, .int .i64 a0_1, .bool a0_2, .bool a0_3, .int .i64 a0_4, .int .i64 a0_5, .int .i64 a0_6, .int .i64 a0_7, .int .i64 a0_8, .int .i64 a0_9], .int .i64 a1, .string a2] w fun e w' => e = .returned (.bool r) ∧ Below w.heap.size w w' := by
  have hu23 := Try.underlying23
  have HB := Aside0.mk (Below.refl w.heap.size w)
  have H : ((miradorlaw13_works.f).bind fun t388 => (if t388 = true then (if (a2.size : Int) > 60 then (miradorlaw13_FormatBack.j0 k a1 a2 t388 true a0_0 a0_1 a0_2 a0_3 a0_4 a0_5 a0_6 a0_7 a0_8 a0_9) else ((format_Valid.f a0_0 a0_1 a0_2 a0_3 a0_4 a0_5 a0_6 a0_7 a0_8 a0_9).bind fun t389 => (miradorlaw13_FormatBack.j0 k a1 a2 t388 (!t389) a0_0 a0_1 a0_2 a0_3 a0_4 a0_5 a0_6 a0_7 a0_8 a0_9))) else (some false))) = some r := h
  clear h
  have HRT := Aside0.mk hr_
  clear hr_
  replace H := Option.bind_eq_some_iff.mp H
  obtain ⟨t388, A40, H⟩ := H
  replace H : (if t388 = true then (if (a2.size : Int) > 60 then (miradorlaw13_FormatBack.j0 k a1 a2 t388 true a0_0 a0_1 a0_2 a0_3 a0_4 a0_5 a0_6 a0_7 a0_8 a0_9) else ((format_Valid.f a0_0 a0_1 a0_2 a0_3 a0_4 a0_5 a0_6 a0_7 a0_8 a0_9).bind fun t389 => (miradorlaw13_FormatBack.j0 k a1 a2 t388 (!t389) a0_0 a0_1 a0_2 a0_3 a0_4 a0_5 a0_6 a0_7 a0_8 a0_9))) else (some false)) = some r := H
  have A4 := Aside0.mk A40
  clear A40
  by_cases c5 : t388 = true
  · subst c5
    have H1 : (if (a2.size : Int) > 60 then (miradorlaw13_FormatBack.j0 k a1 a2 true true a0_0 a0_1 a0_2 a0_3 a0_4 a0_5 a0_6 a0_7 a0_8 a0_9) else ((format_Valid.f a0_0 a0_1 a0_2 a0_3 a0_4 a0_5 a0_6 a0_7 a0_8 a0_9).bind fun t389 => (miradorlaw13_FormatBack.j0 k a1 a2 true (!t389) a0_0 a0_1 a0_2 a0_3 a0_4 a0_5 a0_6 a0_7 a0_8 a0_9))) = some r := by rw [if_pos rfl] at H; exact H
    clear H
    have H := H1
    clear H1
    have HC6 := Aside0.mk H
    clear H
    go_enter Try.func7, Try.ntmps7
    go_upto_region 4 with (first | ((with_reducible refine gate_dst (N := 3) rfl ?_); (try (refine gate_guard (by rfl) ?_; dsimp only)); refine box_event ?hg (N := 3) ?hd (cs := #[.int .i64 a0_0, .int .i64 a0_1, .bool a0_2, .bool a0_3, .int .i64 a0_4, .int .i64 a0_5, .int .i64 a0_6, .int .i64 a0_7, .int .i64 a0_8, .int .i64 a0_9]) (t := 23) ?hr ?_; (case hd => rfl); (case hg => rfl); (case hr => first | (go_simp; done) | (go_simp; rfl)); intro gb387 hg w7 hbox hb; have n0_ := Aside0.mk (below_step (by repeat (first | (with_reducible first | exact HB.out | apply below_alloc | apply pw_below_drewN | apply below_drew1) | exact HB.out)) hb); have n1_ := Aside0.mk (hbox); have n2_ := Aside0.mk ((by rw [hg]; exact (below_size (by repeat (first | (with_reducible first | exact HB.out | apply below_alloc | apply pw_below_drewN | apply below_drew1) | exact HB.out))) : w.heap.size ≤ gb387)); have n3_ := Aside0.mk ((by rw [hg]; exact (below_size (by repeat (first | (with_reducible first | exact HB.out | apply below_alloc | apply pw_below_drewN | apply below_drew1) | exact HB.out))) : w.heap.size ≤ gb387)); clear HB; have HB := n0_; have BK387 := n1_; have GW387 := n2_; have GE387 := n3_; clear n0_ n1_ n2_ n3_; clear hb hbox hg) | ((with_reducible refine gate_callee (f := 8) rfl ?_); refine goesL_ (some 18) rfl rfl Try.func8 (by kernel_rfl) rfl #[] rfl (by (try simp only [List.map_toArray, List.map_cons, List.map_nil]); first | done | rfl | (simp only [List.length_drop, List.length_take]; rfl)) ?_; (with_reducible refine (miradorlaw13_works.calls  true _ A4.out).mono ?_); rintro e w8 ⟨rfl, hb⟩; refine ⟨_, rfl, ?_⟩; have n0_ := Aside0.mk (blk_below (g := gb387) (o := .cells #[.int .i64 a0_0, .int .i64 a0_1, .bool a0_2, .bool a0_3, .int .i64 a0_4, .int .i64 a0_5, .int .i64 a0_6, .int .i64 a0_7, .int .i64 a0_8, .int .i64 a0_9] 23 (0, 0)) (by (with_reducible repeat (first | refine blk_drewN ?_ _ | refine blk_drew ?_ | refine blk_alloc ?_ _)); exact BK387.out) hb); have n1_ := Aside0.mk (below_step (by repeat (first | (with_reducible first | exact HB.out | apply below_alloc | apply pw_below_drewN | apply below_drew1 | refine below_set ?_ GE387.out) | exact HB.out)) hb); clear BK387; clear HB; have BK387 := n0_; have HB := n1_; clear n0_ n1_; (try clear hb); (try clear hb2); (try clear hk); (try clear hi)))
    (try simp only [Act.put, List.setIfInBounds_toArray, List.set_cons_zero, List.set_cons_succ])
    go_cut [28] (fun v28 wc => ∃ (kq : Nat) (x28_5 : Bool), v28 = .bool x28_5 ∧ Aside0 (miradorlaw13_FormatBack.j0 kq a1 a2 true x28_5 a0_0 a0_1 a0_2 a0_3 a0_4 a0_5 a0_6 a0_7 a0_8 a0_9 = some r) ∧ Aside0 (kq ≤ k) ∧ Aside0 (wc.heap[gb387]? = some (.cells #[.int .i64 a0_0, .int .i64 a0_1, .bool a0_2, .bool a0_3, .int .i64 a0_4, .int .i64 a0_5, .int .i64 a0_6, .int .i64 a0_7, .int .i64 a0_8, .int .i64 a0_9] 23 (0, 0))) ∧ Aside0 (Below w.heap.size w wc))
    case first =>
      have H := HC6.out
      clear HC6
      by_cases c9 : (a2.size : Int) > 60
      · rw [if_pos c9] at H
        have c9b0 : decide (60 < (a2.size : Int)) = true := decide_eq_true c9
        have c9b1 : decide (60 < a2.size) = true := decide_eq_true (by omega)
        clear c9
        (first | rw [c9b0] | (simp only [i64_w, i32_w]; rw [c9b0]) | skip)
        have H' := Aside0.mk H
        clear H
        go_wp2
        go_meet
        case rel => exact ⟨_, (true), (by first | rfl | (simp; done) | (simp [*]; done)), H', ⟨by first | omega | exact Nat.le_refl _⟩, ⟨by (with_reducible repeat (first | refine blk_drewN ?_ _ | refine blk_drew ?_ | refine blk_alloc ?_ _)); exact BK387.out⟩, ⟨by repeat (first | (with_reducible first | exact HB.out | apply below_alloc | apply pw_below_drewN | apply below_drew1 | refine below_set ?_ GE387.out) | exact HB.out)⟩⟩
      · rw [if_neg c9] at H
        have c9b0 : decide (60 < (a2.size : Int)) = false := decide_eq_false c9
        have c9b1 : decide (60 < a2.size) = false := decide_eq_false (by omega)
        clear c9
        (first | rw [c9b0] | (simp only [i64_w, i32_w]; rw [c9b0]) | skip)
        replace H := Option.bind_eq_some_iff.mp H
        obtain ⟨t389, A100, H⟩ := H
        replace H : (miradorlaw13_FormatBack.j0 k a1 a2 true (!t389) a0_0 a0_1 a0_2 a0_3 a0_4 a0_5 a0_6 a0_7 a0_8 a0_9) = some r := H
        have A10 := Aside0.mk A100
        clear A100
        have H' := Aside0.mk H
        clear H
        have hcz11_0 : w8.cell? ⟨gb387, 0, none⟩ = some (.int .i64 a0_0) := (blk_cell BK387.out 0).trans rfl
        have hcz11_1 : w8.cell? ⟨gb387, 1, none⟩ = some (.int .i64 a0_1) := (blk_cell BK387.out 1).trans rfl
        have hcz11_2 : w8.cell? ⟨gb387, 2, none⟩ = some (.bool a0_2) := (blk_cell BK387.out 2).trans rfl
        have hcz11_3 : w8.cell? ⟨gb387, 3, none⟩ = some (.bool a0_3) := (blk_cell BK387.out 3).trans rfl
        have hcz11_4 : w8.cell? ⟨gb387, 4, none⟩ = some (.int .i64 a0_4) := (blk_cell BK387.out 4).trans rfl
        have hcz11_5 : w8.cell? ⟨gb387, 5, none⟩ = some (.int .i64 a0_5) := (blk_cell BK387.out 5).trans rfl
        have hcz11_6 : w8.cell? ⟨gb387, 6, none⟩ = some (.int .i64 a0_6) := (blk_cell BK387.out 6).trans rfl
        have hcz11_7 : w8.cell? ⟨gb387, 7, none⟩ = some (.int .i64 a0_7) := (blk_cell BK387.out 7).trans rfl
        have hcz11_8 : w8.cell? ⟨gb387, 8, none⟩ = some (.int .i64 a0_8) := (blk_cell BK387.out 8).trans rfl
        have hcz11_9 : w8.cell? ⟨gb387, 9, none⟩ = some (.int .i64 a0_9) := (blk_cell BK387.out 9).trans rfl
        have hfz11_0 := blk_frozen BK387.out 0
        have hfz11_1 := blk_frozen BK387.out 1
        have hfz11_2 := blk_frozen BK387.out 2
        have hfz11_3 := blk_frozen BK387.out 3
        have hfz11_4 := blk_frozen BK387.out 4
        have hfz11_5 := blk_frozen BK387.out 5
        have hfz11_6 := blk_frozen BK387.out 6
        have hfz11_7 := blk_frozen BK387.out 7
        have hfz11_8 := blk_frozen BK387.out 8
        have hfz11_9 := blk_frozen BK387.out 9
        go_wp2_with (first | (go_at_call 11; (with_reducible refine (format_Valid.calls a0_0 a0_1 a0_2 a0_3 a0_4 a0_5 a0_6 a0_7 a0_8 a0_9 t389 _ A10.out).mono ?_); rintro e w12 ⟨rfl, hb⟩; have n0_ := Aside0.mk (blk_below (g := gb387) (o := .cells #[.int .i64 a0_0, .int .i64 a0_1, .bool a0_2, .bool a0_3, .int .i64 a0_4, .int .i64 a0_5, .int .i64 a0_6, .int .i64 a0_7, .int .i64 a0_8, .int .i64 a0_9] 23 (0, 0)) (by (with_reducible repeat (first | refine blk_drewN ?_ _ | refine blk_drew ?_ | refine blk_alloc ?_ _)); exact BK387.out) hb); have n1_ := Aside0.mk (below_step (by repeat (first | (with_reducible first | exact HB.out | apply below_alloc | apply pw_below_drewN | apply below_drew1 | refine below_set ?_ GE387.out) | exact HB.out)) hb); clear BK387; clear HB; have BK387 := n0_; have HB := n1_; clear n0_ n1_; (try clear hb); (try clear hb2); (try clear hk); (try clear hi)))
        go_meet
        case rel => exact ⟨_, (!t389), (by first | rfl | (simp; done) | (simp [*]; done)), H', ⟨by first | omega | exact Nat.le_refl _⟩, ⟨by (with_reducible repeat (first | refine blk_drewN ?_ _ | refine blk_drew ?_ | refine blk_alloc ?_ _)); exact BK387.out⟩, ⟨by repeat (first | (with_reducible first | exact HB.out | apply below_alloc | apply pw_below_drewN | apply below_drew1 | refine below_set ?_ GE387.out) | exact HB.out)⟩⟩
    case rest =>
      clear HC6
      try clear p2
      try clear c5
      try clear c7
      try clear c8
      try clear c9
      try clear c9b0
      try clear c9b1
      try clear hcz11_0
      try clear hcz11_1
      try clear hcz11_2
      try clear hcz11_3
      try clear hcz11_4
      try clear hcz11_5
      try clear hcz11_6
      try clear hcz11_7
      try clear hcz11_8
      try clear hcz11_9
      try clear hfz11_0
      try clear hfz11_1
      try clear hfz11_2
      try clear hfz11_3
      try clear hfz11_4
      try clear hfz11_5
      try clear hfz11_6
      try clear hfz11_7
      try clear hfz11_8
      try clear hfz11_9
      obtain ⟨kq, x28_5, rfl, HA, HJ5, BK387, HB⟩ := hcut
      cases kq with
      | zero => exact absurd HA.out (by simp [miradorlaw13_FormatBack.j0])
      | succ kj5 =>
        have H := HA.out
        clear HA
        simp only [miradorlaw13_FormatBack.j0] at H
        by_cases c13 : x28_5 = true
        · subst c13
          have H1 : (some true) = some r := by rw [if_pos rfl] at H; exact H
          clear H
          have H := H1
          clear H1
          obtain rfl := Option.some.inj H
          go_wp2
          go_ret
          exact ⟨by first | rfl | (simp [errW_none, errW_some] <;> rfl) | (simp [*, errW_none, errW_some] <;> rfl), by repeat (first | (with_reducible first | exact HB.out | apply below_alloc | apply pw_below_drewN | apply below_drew1 | refine below_set ?_ GE387.out) | exact HB.out)⟩
        · replace c13 := Bool.eq_false_iff.mpr c13
          subst c13
          have H1 : ((format_Bytes.f a0_0 a0_1 a0_2 a0_3 a0_4 a0_5 a0_6 a0_7 a0_8 a0_9).bind fun t390 => (if t390.size + a2.size ≤ 9223372036854775807 then ((format_Parse.f (t390 ++ a2)).bind fun bt391 => (if (!(bt391.1 == a0_0) || (!(bt391.2.1 == a0_1) || (!(bt391.2.2.1 == a0_2) || (!(bt391.2.2.2.1 == a0_3) || (!(bt391.2.2.2.2.1 == a0_4) || (!(bt391.2.2.2.2.2.1 == a0_5) || (!(bt391.2.2.2.2.2.2.1 == a0_6) || (!(bt391.2.2.2.2.2.2.2.1 == a0_7) || (!(bt391.2.2.2.2.2.2.2.2.1 == a0_8) || (!(bt391.2.2.2.2.2.2.2.2.2.1 == a0_9))))))))))) = true then (miradorlaw13_FormatBack.j1 kj5 a1 a2 true true a0_0 a0_1 a0_2 a0_3 a0_4 a0_5 a0_6 a0_7 a0_8 a0_9) else (if bt391.2.2.2.2.2.2.2.2.2.2 = 0 then ((format_Bytes.f a0_0 a0_1 a0_2 a0_3 a0_4 a0_5 a0_6 a0_7 a0_8 a0_9).bind fun t403 => (miradorlaw13_FormatBack.j1 kj5 a1 a2 true ((t403.size : Int) != 16) a0_0 a0_1 a0_2 a0_3 a0_4 a0_5 a0_6 a0_7 a0_8 a0_9)) else (miradorlaw13_FormatBack.j1 kj5 a1 a2 true true a0_0 a0_1 a0_2 a0_3 a0_4 a0_5 a0_6 a0_7 a0_8 a0_9)))) else (none))) = some r := by rw [if_neg (show ¬ (false = true) by decide)] at H; exact H
          clear H
          have H := H1
          clear H1
          replace H := Option.bind_eq_some_iff.mp H
          obtain ⟨t390, A140, H⟩ := H
          replace H : (if t390.size + a2.size ≤ 9223372036854775807 then ((format_Parse.f (t390 ++ a2)).bind fun bt391 => (if (!(bt391.1 == a0_0) || (!(bt391.2.1 == a0_1) || (!(bt391.2.2.1 == a0_2) || (!(bt391.2.2.2.1 == a0_3) || (!(bt391.2.2.2.2.1 == a0_4) || (!(bt391.2.2.2.2.2.1 == a0_5) || (!(bt391.2.2.2.2.2.2.1 == a0_6) || (!(bt391.2.2.2.2.2.2.2.1 == a0_7) || (!(bt391.2.2.2.2.2.2.2.2.1 == a0_8) || (!(bt391.2.2.2.2.2.2.2.2.2.1 == a0_9))))))))))) = true then (miradorlaw13_FormatBack.j1 kj5 a1 a2 true true a0_0 a0_1 a0_2 a0_3 a0_4 a0_5 a0_6 a0_7 a0_8 a0_9) else (if bt391.2.2.2.2.2.2.2.2.2.2 = 0 then ((format_Bytes.f a0_0 a0_1 a0_2 a0_3 a0_4 a0_5 a0_6 a0_7 a0_8 a0_9).bind fun t403 => (miradorlaw13_FormatBack.j1 kj5 a1 a2 true ((t403.size : Int) != 16) a0_0 a0_1 a0_2 a0_3 a0_4 a0_5 a0_6 a0_7 a0_8 a0_9)) else (miradorlaw13_FormatBack.j1 kj5 a1 a2 true true a0_0 a0_1 a0_2 a0_3 a0_4 a0_5 a0_6 a0_7 a0_8 a0_9)))) else (none)) = some r := H
          have A14 := Aside0.mk A140
          clear A140
          by_cases c15 : t390.size + a2.size ≤ 9223372036854775807
          · rw [if_pos c15] at H
            have c15b0 := eq_true c15
            have c15b1 : decide (t390.size + a2.size ≤ 9223372036854775807) = true := decide_eq_true c15
            try have c15b2 : (9223372036854775807 < t390.size + a2.size) = False := eq_false (Nat.not_lt.2 c15)
            replace H := Option.bind_eq_some_iff.mp H
            obtain ⟨⟨t391, t392, t393, t394, t395, t396, t397, t398, t399, t400, t401⟩, A160, H⟩ := H
            replace H : (if (!(t391 == a0_0) || (!(t392 == a0_1) || (!(t393 == a0_2) || (!(t394 == a0_3) || (!(t395 == a0_4) || (!(t396 == a0_5) || (!(t397 == a0_6) || (!(t398 == a0_7) || (!(t399 == a0_8) || (!(t400 == a0_9))))))))))) = true then (miradorlaw13_FormatBack.j1 kj5 a1 a2 true true a0_0 a0_1 a0_2 a0_3 a0_4 a0_5 a0_6 a0_7 a0_8 a0_9) else (if t401 = 0 then ((format_Bytes.f a0_0 a0_1 a0_2 a0_3 a0_4 a0_5 a0_6 a0_7 a0_8 a0_9).bind fun t403 => (miradorlaw13_FormatBack.j1 kj5 a1 a2 true ((t403.size : Int) != 16) a0_0 a0_1 a0_2 a0_3 a0_4 a0_5 a0_6 a0_7 a0_8 a0_9)) else (miradorlaw13_FormatBack.j1 kj5 a1 a2 true true a0_0 a0_1 a0_2 a0_3 a0_4 a0_5 a0_6 a0_7 a0_8 a0_9))) = some r := H
            have A16 := Aside0.mk A160
            clear A160
            have HC17 := Aside0.mk H
            clear H
            have hcz18_0 : wc.cell? ⟨gb387, 0, none⟩ = some (.int .i64 a0_0) := (blk_cell BK387.out 0).trans rfl
            have hcz18_1 : wc.cell? ⟨gb387, 1, none⟩ = some (.int .i64 a0_1) := (blk_cell BK387.out 1).trans rfl
            have hcz18_2 : wc.cell? ⟨gb387, 2, none⟩ = some (.bool a0_2) := (blk_cell BK387.out 2).trans rfl
            have hcz18_3 : wc.cell? ⟨gb387, 3, none⟩ = some (.bool a0_3) := (blk_cell BK387.out 3).trans rfl
            have hcz18_4 : wc.cell? ⟨gb387, 4, none⟩ = some (.int .i64 a0_4) := (blk_cell BK387.out 4).trans rfl
            have hcz18_5 : wc.cell? ⟨gb387, 5, none⟩ = some (.int .i64 a0_5) := (blk_cell BK387.out 5).trans rfl
            have hcz18_6 : wc.cell? ⟨gb387, 6, none⟩ = some (.int .i64 a0_6) := (blk_cell BK387.out 6).trans rfl
            have hcz18_7 : wc.cell? ⟨gb387, 7, none⟩ = some (.int .i64 a0_7) := (blk_cell BK387.out 7).trans rfl
            have hcz18_8 : wc.cell? ⟨gb387, 8, none⟩ = some (.int .i64 a0_8) := (blk_cell BK387.out 8).trans rfl
            have hcz18_9 : wc.cell? ⟨gb387, 9, none⟩ = some (.int .i64 a0_9) := (blk_cell BK387.out 9).trans rfl
            have hfz18_0 := blk_frozen BK387.out 0
            have hfz18_1 := blk_frozen BK387.out 1
            have hfz18_2 := blk_frozen BK387.out 2
            have hfz18_3 := blk_frozen BK387.out 3
            have hfz18_4 := blk_frozen BK387.out 4
            have hfz18_5 := blk_frozen BK387.out 5
            have hfz18_6 := blk_frozen BK387.out 6
            have hfz18_7 := blk_frozen BK387.out 7
            have hfz18_8 := blk_frozen BK387.out 8
            have hfz18_9 := blk_frozen BK387.out 9
            go_upto_region 7 with (first | ((with_reducible refine gate_callee (f := 13) rfl ?_); refine goesL_ (some 32) rfl rfl Try.func13 (by kernel_rfl) rfl #[.agg #[.int .i64 a0_0, .int .i64 a0_1, .bool a0_2, .bool a0_3, .int .i64 a0_4, .int .i64 a0_5, .int .i64 a0_6, .int .i64 a0_7, .int .i64 a0_8, .int .i64 a0_9]] rfl (by (try simp only [List.map_toArray, List.map_cons, List.map_nil]); first | done | rfl | (simp only [List.length_drop, List.length_take]; rfl)) ?_; (with_reducible refine (format_Bytes.calls a0_0 a0_1 a0_2 a0_3 a0_4 a0_5 a0_6 a0_7 a0_8 a0_9 t390 _ A14.out).mono ?_); rintro e w19 ⟨rfl, hb⟩; refine ⟨_, rfl, ?_⟩; have n0_ := Aside0.mk (blk_below (g := gb387) (o := .cells #[.int .i64 a0_0, .int .i64 a0_1, .bool a0_2, .bool a0_3, .int .i64 a0_4, .int .i64 a0_5, .int .i64 a0_6, .int .i64 a0_7, .int .i64 a0_8, .int .i64 a0_9] 23 (0, 0)) (by (with_reducible repeat (first | refine blk_drewN ?_ _ | refine blk_drew ?_ | refine blk_alloc ?_ _)); exact BK387.out) hb); have n1_ := Aside0.mk (below_step (by repeat (first | (with_reducible first | exact HB.out | apply below_alloc | apply pw_below_drewN | apply below_drew1 | refine below_set ?_ GE387.out) | exact HB.out)) hb); clear BK387; clear HB; have BK387 := n0_; have HB := n1_; clear n0_ n1_; (try clear hb); (try clear hb2); (try clear hk); (try clear hi)) | ((with_reducible refine gate_callee (f := 9) rfl ?_); refine goesL_ (some 35) rfl rfl Try.func9 (by kernel_rfl) rfl #[.string (t390 ++ a2)] rfl (by (try simp only [List.map_toArray, List.map_cons, List.map_nil]); first | done | rfl | (simp only [List.length_drop, List.length_take]; rfl)) ?_; (with_reducible refine (format_Parse.calls (t390 ++ a2) t391 t392 t393 t394 t395 t396 t397 t398 t399 t400 t401 _ A16.out).mono ?_); rintro e w20 ⟨rfl, hb⟩; refine ⟨_, rfl, ?_⟩; have n0_ := Aside0.mk (blk_below (g := gb387) (o := .cells #[.int .i64 a0_0, .int .i64 a0_1, .bool a0_2, .bool a0_3, .int .i64 a0_4, .int .i64 a0_5, .int .i64 a0_6, .int .i64 a0_7, .int .i64 a0_8, .int .i64 a0_9] 23 (0, 0)) (by (with_reducible repeat (first | refine blk_drewN ?_ _ | refine blk_drew ?_ | refine blk_alloc ?_ _)); exact BK387.out) hb); have n1_ := Aside0.mk (below_step (by repeat (first | (with_reducible first | exact HB.out | apply below_alloc | apply pw_below_drewN | apply below_drew1 | refine below_set ?_ GE387.out) | exact HB.out)) hb); clear BK387; clear HB; have BK387 := n0_; have HB := n1_; clear n0_ n1_; (try clear hb); (try clear hb2); (try clear hk); (try clear hi)) | ((with_reducible refine gate_dst (N := 8) rfl ?_); (try (refine gate_guard (by rfl) ?_; dsimp only)); refine box_event ?hg (N := 8) ?hd (cs := #[.int .i64 0, .int .i64 0, .bool false, .bool false, .int .i64 0, .int .i64 0, .int .i64 0, .int .i64 0, .int .i64 0, .int .i64 0]) (t := 23) ?hr ?_; (case hd => rfl); (case hg => rfl); (case hr => first | (go_simp; done) | (go_simp; rfl)); intro gb402 hg w21 hbox hb; have n0_ := Aside0.mk (blk_below (g := gb387) (o := .cells #[.int .i64 a0_0, .int .i64 a0_1, .bool a0_2, .bool a0_3, .int .i64 a0_4, .int .i64 a0_5, .int .i64 a0_6, .int .i64 a0_7, .int .i64 a0_8, .int .i64 a0_9] 23 (0, 0)) (by (with_reducible repeat (first | refine blk_drewN ?_ _ | refine blk_drew ?_ | refine blk_alloc ?_ _)); exact BK387.out) hb); have n1_ := Aside0.mk (below_step (by repeat (first | (with_reducible first | exact HB.out | apply below_alloc | apply pw_below_drewN | apply below_drew1 | refine below_set ?_ GE387.out) | exact HB.out)) hb); have n2_ := Aside0.mk (hbox); have n3_ := Aside0.mk ((by rw [hg]; exact (below_size (by repeat (first | (with_reducible first | exact HB.out | apply below_alloc | apply pw_below_drewN | apply below_drew1 | refine below_set ?_ GE387.out) | exact HB.out))) : w.heap.size ≤ gb402)); have n4_ := Aside0.mk ((by rw [hg]; exact (below_size (by repeat (first | (with_reducible first | exact HB.out | apply below_alloc | apply pw_below_drewN | apply below_drew1 | refine below_set ?_ GE387.out) | exact HB.out))) : w.heap.size ≤ gb402)); have n5_ := Aside0.mk ((by rw [hg]; exact Nat.ne_of_lt (blk_lt (g := gb387) (o := .cells #[.int .i64 a0_0, .int .i64 a0_1, .bool a0_2, .bool a0_3, .int .i64 a0_4, .int .i64 a0_5, .int .i64 a0_6, .int .i64 a0_7, .int .i64 a0_8, .int .i64 a0_9] 23 (0, 0)) (by (with_reducible repeat (first | refine blk_drewN ?_ _ | refine blk_drew ?_ | refine blk_alloc ?_ _)); exact BK387.out)) : gb387 ≠ gb402)); have n6_ := Aside0.mk ((by rw [hg]; exact Nat.ne_of_gt (blk_lt (g := gb387) (o := .cells #[.int .i64 a0_0, .int .i64 a0_1, .bool a0_2, .bool a0_3, .int .i64 a0_4, .int .i64 a0_5, .int .i64 a0_6, .int .i64 a0_7, .int .i64 a0_8, .int .i64 a0_9] 23 (0, 0)) (by (with_reducible repeat (first | refine blk_drewN ?_ _ | refine blk_drew ?_ | refine blk_alloc ?_ _)); exact BK387.out)) : gb402 ≠ gb387)); clear BK387; clear HB; have BK387 := n0_; have HB := n1_; have BK402 := n2_; have GW402 := n3_; have GE402 := n4_; have NB387_402 := n5_; have NB402_387 := n6_; clear n0_ n1_ n2_ n3_ n4_ n5_ n6_; clear hb hbox hg; have hnb22 := NB402_387.out; have hnc22 := NB387_402.out; have hcz23_0 : w21.cell? ⟨gb402, 0, none⟩ = some (.int .i64 0) := (blk_cell BK402.out 0).trans rfl; have hcz23_1 : w21.cell? ⟨gb402, 1, none⟩ = some (.int .i64 0) := (blk_cell BK402.out 1).trans rfl; have hcz23_2 : w21.cell? ⟨gb402, 2, none⟩ = some (.bool false) := (blk_cell BK402.out 2).trans rfl; have hcz23_3 : w21.cell? ⟨gb402, 3, none⟩ = some (.bool false) := (blk_cell BK402.out 3).trans rfl; have hcz23_4 : w21.cell? ⟨gb402, 4, none⟩ = some (.int .i64 0) := (blk_cell BK402.out 4).trans rfl; have hcz23_5 : w21.cell? ⟨gb402, 5, none⟩ = some (.int .i64 0) := (blk_cell BK402.out 5).trans rfl; have hcz23_6 : w21.cell? ⟨gb402, 6, none⟩ = some (.int .i64 0) := (blk_cell BK402.out 6).trans rfl; have hcz23_7 : w21.cell? ⟨gb402, 7, none⟩ = some (.int .i64 0) := (blk_cell BK402.out 7).trans rfl; have hcz23_8 : w21.cell? ⟨gb402, 8, none⟩ = some (.int .i64 0) := (blk_cell BK402.out 8).trans rfl; have hcz23_9 : w21.cell? ⟨gb402, 9, none⟩ = some (.int .i64 0) := (blk_cell BK402.out 9).trans rfl; have hfz23_0 := blk_frozen BK402.out 0; have hfz23_1 := blk_frozen BK402.out 1; have hfz23_2 := blk_frozen BK402.out 2; have hfz23_3 := blk_frozen BK402.out 3; have hfz23_4 := blk_frozen BK402.out 4; have hfz23_5 := blk_frozen BK402.out 5; have hfz23_6 := blk_frozen BK402.out 6; have hfz23_7 := blk_frozen BK402.out 7; have hfz23_8 := blk_frozen BK402.out 8; have hfz23_9 := blk_frozen BK402.out 9))
            (try simp only [Act.put, List.setIfInBounds_toArray, List.set_cons_zero, List.set_cons_succ])
            go_cut [50] (fun v50 wc => ∃ (kq : Nat) (x50_16 : Bool), v50 = .bool x50_16 ∧ Aside0 (miradorlaw13_FormatBack.j1 kq a1 a2 true x50_16 a0_0 a0_1 a0_2 a0_3 a0_4 a0_5 a0_6 a0_7 a0_8 a0_9 = some r) ∧ Aside0 (kq ≤ kj5) ∧ Aside0 (wc.heap[gb387]? = some (.cells #[.int .i64 a0_0, .int .i64 a0_1, .bool a0_2, .bool a0_3, .int .i64 a0_4, .int .i64 a0_5, .int .i64 a0_6, .int .i64 a0_7, .int .i64 a0_8, .int .i64 a0_9] 23 (0, 0))) ∧ Aside0 (wc.heap[gb402]? = some (.cells #[.int .i64 t391, .int .i64 t392, .bool t393, .bool t394, .int .i64 t395, .int .i64 t396, .int .i64 t397, .int .i64 t398, .int .i64 t399, .int .i64 t400] 23 (0, 0))) ∧ Aside0 (Below w.heap.size w wc))
            case first =>
              have H := HC17.out
              clear HC17
              by_cases c24 : (!(t391 == a0_0) || (!(t392 == a0_1) || (!(t393 == a0_2) || (!(t394 == a0_3) || (!(t395 == a0_4) || (!(t396 == a0_5) || (!(t397 == a0_6) || (!(t398 == a0_7) || (!(t399 == a0_8) || (!(t400 == a0_9))))))))))) = true
              · rw [if_pos c24] at H
                have c24b0 : (!(t391 == a0_0) || (!(t392 == a0_1) || (!(t393 == a0_2) || (!(t394 == a0_3) || (!(t395 == a0_4) || (!(t396 == a0_5) || (!(t397 == a0_6) || (!(t398 == a0_7) || (!(t399 == a0_8) || (!(t400 == a0_9))))))))))) = true := c24
                clear c24
                (first | rw [c24b0] | (simp only [i64_w, i32_w]; rw [c24b0]) | skip)
                have H' := Aside0.mk H
                clear H
                have hnb25 := NB402_387.out
                have hnc25 := NB387_402.out
                have hcz26_0 : w21.cell? ⟨gb402, 0, none⟩ = some (.int .i64 0) := (blk_cell BK402.out 0).trans rfl
                have hcz26_1 : w21.cell? ⟨gb402, 1, none⟩ = some (.int .i64 0) := (blk_cell BK402.out 1).trans rfl
                have hcz26_2 : w21.cell? ⟨gb402, 2, none⟩ = some (.bool false) := (blk_cell BK402.out 2).trans rfl
                have hcz26_3 : w21.cell? ⟨gb402, 3, none⟩ = some (.bool false) := (blk_cell BK402.out 3).trans rfl
                have hcz26_4 : w21.cell? ⟨gb402, 4, none⟩ = some (.int .i64 0) := (blk_cell BK402.out 4).trans rfl
                have hcz26_5 : w21.cell? ⟨gb402, 5, none⟩ = some (.int .i64 0) := (blk_cell BK402.out 5).trans rfl
                have hcz26_6 : w21.cell? ⟨gb402, 6, none⟩ = some (.int .i64 0) := (blk_cell BK402.out 6).trans rfl
                have hcz26_7 : w21.cell? ⟨gb402, 7, none⟩ = some (.int .i64 0) := (blk_cell BK402.out 7).trans rfl
                have hcz26_8 : w21.cell? ⟨gb402, 8, none⟩ = some (.int .i64 0) := (blk_cell BK402.out 8).trans rfl
                have hcz26_9 : w21.cell? ⟨gb402, 9, none⟩ = some (.int .i64 0) := (blk_cell BK402.out 9).trans rfl
                have hfz26_0 := blk_frozen BK402.out 0
                have hfz26_1 := blk_frozen BK402.out 1
                have hfz26_2 := blk_frozen BK402.out 2
                have hfz26_3 := blk_frozen BK402.out 3
                have hfz26_4 := blk_frozen BK402.out 4
                have hfz26_5 := blk_frozen BK402.out 5
                have hfz26_6 := blk_frozen BK402.out 6
                have hfz26_7 := blk_frozen BK402.out 7
                have hfz26_8 := blk_frozen BK402.out 8
                have hfz26_9 := blk_frozen BK402.out 9
                have hcz27_0 : w21.cell? ⟨gb387, 0, none⟩ = some (.int .i64 a0_0) := (blk_cell BK387.out 0).trans rfl
                have hcz27_1 : w21.cell? ⟨gb387, 1, none⟩ = some (.int .i64 a0_1) := (blk_cell BK387.out 1).trans rfl
                have hcz27_2 : w21.cell? ⟨gb387, 2, none⟩ = some (.bool a0_2) := (blk_cell BK387.out 2).trans rfl
                have hcz27_3 : w21.cell? ⟨gb387, 3, none⟩ = some (.bool a0_3) := (blk_cell BK387.out 3).trans rfl
                have hcz27_4 : w21.cell? ⟨gb387, 4, none⟩ = some (.int .i64 a0_4) := (blk_cell BK387.out 4).trans rfl
                have hcz27_5 : w21.cell? ⟨gb387, 5, none⟩ = some (.int .i64 a0_5) := (blk_cell BK387.out 5).trans rfl
                have hcz27_6 : w21.cell? ⟨gb387, 6, none⟩ = some (.int .i64 a0_6) := (blk_cell BK387.out 6).trans rfl
                have hcz27_7 : w21.cell? ⟨gb387, 7, none⟩ = some (.int .i64 a0_7) := (blk_cell BK387.out 7).trans rfl
                have hcz27_8 : w21.cell? ⟨gb387, 8, none⟩ = some (.int .i64 a0_8) := (blk_cell BK387.out 8).trans rfl
                have hcz27_9 : w21.cell? ⟨gb387, 9, none⟩ = some (.int .i64 a0_9) := (blk_cell BK387.out 9).trans rfl
                have hfz27_0 := blk_frozen BK387.out 0
                have hfz27_1 := blk_frozen BK387.out 1
                have hfz27_2 := blk_frozen BK387.out 2
                have hfz27_3 := blk_frozen BK387.out 3
                have hfz27_4 := blk_frozen BK387.out 4
                have hfz27_5 := blk_frozen BK387.out 5
                have hfz27_6 := blk_frozen BK387.out 6
                have hfz27_7 := blk_frozen BK387.out 7
                have hfz27_8 := blk_frozen BK387.out 8
                have hfz27_9 := blk_frozen BK387.out 9
                go_wp2
                go_meet
                case rel => exact ⟨_, (true), (by first | rfl | (simp; done) | (simp [*]; done)), H', ⟨by have := HJ5.out; first | omega | exact Nat.le_refl _⟩, ⟨by (with_reducible repeat (first | refine blk_drewN ?_ _ | refine blk_drew ?_ | refine blk_alloc ?_ _)); refine blk_far ?_ NB387_402.out _; (with_reducible repeat (first | refine blk_drewN ?_ _ | refine blk_drew ?_ | refine blk_alloc ?_ _)); refine blk_far ?_ NB387_402.out _; (with_reducible repeat (first | refine blk_drewN ?_ _ | refine blk_drew ?_ | refine blk_alloc ?_ _)); refine blk_far ?_ NB387_402.out _; (with_reducible repeat (first | refine blk_drewN ?_ _ | refine blk_drew ?_ | refine blk_alloc ?_ _)); refine blk_far ?_ NB387_402.out _; (with_reducible repeat (first | refine blk_drewN ?_ _ | refine blk_drew ?_ | refine blk_alloc ?_ _)); refine blk_far ?_ NB387_402.out _; (with_reducible repeat (first | refine blk_drewN ?_ _ | refine blk_drew ?_ | refine blk_alloc ?_ _)); refine blk_far ?_ NB387_402.out _; (with_reducible repeat (first | refine blk_drewN ?_ _ | refine blk_drew ?_ | refine blk_alloc ?_ _)); refine blk_far ?_ NB387_402.out _; (with_reducible repeat (first | refine blk_drewN ?_ _ | refine blk_drew ?_ | refine blk_alloc ?_ _)); refine blk_far ?_ NB387_402.out _; (with_reducible repeat (first | refine blk_drewN ?_ _ | refine blk_drew ?_ | refine blk_alloc ?_ _)); refine blk_far ?_ NB387_402.out _; (with_reducible repeat (first | refine blk_drewN ?_ _ | refine blk_drew ?_ | refine blk_alloc ?_ _)); refine blk_far ?_ NB387_402.out _; (with_reducible repeat (first | refine blk_drewN ?_ _ | refine blk_drew ?_ | refine blk_alloc ?_ _)); exact BK387.out⟩, ⟨by (with_reducible repeat (first | refine blk_drewN ?_ _ | refine blk_drew ?_ | refine blk_alloc ?_ _)); refine blk_put (cs := #[.int .i64 t391, .int .i64 t392, .bool t393, .bool t394, .int .i64 t395, .int .i64 t396, .int .i64 t397, .int .i64 t398, .int .i64 t399, .int .i64 0]) ?_ 9 _ rfl; (with_reducible repeat (first | refine blk_drewN ?_ _ | refine blk_drew ?_ | refine blk_alloc ?_ _)); refine blk_put (cs := #[.int .i64 t391, .int .i64 t392, .bool t393, .bool t394, .int .i64 t395, .int .i64 t396, .int .i64 t397, .int .i64 t398, .int .i64 0, .int .i64 0]) ?_ 8 _ rfl; (with_reducible repeat (first | refine blk_drewN ?_ _ | refine blk_drew ?_ | refine blk_alloc ?_ _)); refine blk_put (cs := #[.int .i64 t391, .int .i64 t392, .bool t393, .bool t394, .int .i64 t395, .int .i64 t396, .int .i64 t397, .int .i64 0, .int .i64 0, .int .i64 0]) ?_ 7 _ rfl; (with_reducible repeat (first | refine blk_drewN ?_ _ | refine blk_drew ?_ | refine blk_alloc ?_ _)); refine blk_put (cs := #[.int .i64 t391, .int .i64 t392, .bool t393, .bool t394, .int .i64 t395, .int .i64 t396, .int .i64 0, .int .i64 0, .int .i64 0, .int .i64 0]) ?_ 6 _ rfl; (with_reducible repeat (first | refine blk_drewN ?_ _ | refine blk_drew ?_ | refine blk_alloc ?_ _)); refine blk_put (cs := #[.int .i64 t391, .int .i64 t392, .bool t393, .bool t394, .int .i64 t395, .int .i64 0, .int .i64 0, .int .i64 0, .int .i64 0, .int .i64 0]) ?_ 5 _ rfl; (with_reducible repeat (first | refine blk_drewN ?_ _ | refine blk_drew ?_ | refine blk_alloc ?_ _)); refine blk_put (cs := #[.int .i64 t391, .int .i64 t392, .bool t393, .bool t394, .int .i64 0, .int .i64 0, .int .i64 0, .int .i64 0, .int .i64 0, .int .i64 0]) ?_ 4 _ rfl; (with_reducible repeat (first | refine blk_drewN ?_ _ | refine blk_drew ?_ | refine blk_alloc ?_ _)); refine blk_put (cs := #[.int .i64 t391, .int .i64 t392, .bool t393, .bool false, .int .i64 0, .int .i64 0, .int .i64 0, .int .i64 0, .int .i64 0, .int .i64 0]) ?_ 3 _ rfl; (with_reducible repeat (first | refine blk_drewN ?_ _ | refine blk_drew ?_ | refine blk_alloc ?_ _)); refine blk_put (cs := #[.int .i64 t391, .int .i64 t392, .bool false, .bool false, .int .i64 0, .int .i64 0, .int .i64 0, .int .i64 0, .int .i64 0, .int .i64 0]) ?_ 2 _ rfl; (with_reducible repeat (first | refine blk_drewN ?_ _ | refine blk_drew ?_ | refine blk_alloc ?_ _)); refine blk_put (cs := #[.int .i64 t391, .int .i64 0, .bool false, .bool false, .int .i64 0, .int .i64 0, .int .i64 0, .int .i64 0, .int .i64 0, .int .i64 0]) ?_ 1 _ rfl; (with_reducible repeat (first | refine blk_drewN ?_ _ | refine blk_drew ?_ | refine blk_alloc ?_ _)); refine blk_put (cs := #[.int .i64 0, .int .i64 0, .bool false, .bool false, .int .i64 0, .int .i64 0, .int .i64 0, .int .i64 0, .int .i64 0, .int .i64 0]) ?_ 0 _ rfl; (with_reducible repeat (first | refine blk_drewN ?_ _ | refine blk_drew ?_ | refine blk_alloc ?_ _)); exact BK402.out⟩, ⟨by repeat (first | (with_reducible first | exact HB.out | apply below_alloc | apply pw_below_drewN | apply below_drew1 | refine below_set ?_ GE387.out | refine below_set ?_ GE402.out) | exact HB.out)⟩⟩
              · rw [if_neg c24] at H
                have c24b0 : (!(t391 == a0_0) || (!(t392 == a0_1) || (!(t393 == a0_2) || (!(t394 == a0_3) || (!(t395 == a0_4) || (!(t396 == a0_5) || (!(t397 == a0_6) || (!(t398 == a0_7) || (!(t399 == a0_8) || (!(t400 == a0_9))))))))))) = false := by simpa using c24
                clear c24
                (first | rw [c24b0] | (simp only [i64_w, i32_w]; rw [c24b0]) | skip)
                by_cases c28 : t401 = 0
                · rw [if_pos c28] at H
                  have c28b0 : (t401 == 0) = true := beq_iff_eq.mpr c28
                  have c28b1 : (t401 != 0) = false := bne_eq_false_iff_eq.mpr c28
                  clear c28
                  replace H := Option.bind_eq_some_iff.mp H
                  obtain ⟨t403, A290, H⟩ := H
                  replace H : (miradorlaw13_FormatBack.j1 kj5 a1 a2 true ((t403.size : Int) != 16) a0_0 a0_1 a0_2 a0_3 a0_4 a0_5 a0_6 a0_7 a0_8 a0_9) = some r := H
                  have A29 := Aside0.mk A290
                  clear A290
                  have H' := Aside0.mk H
                  clear H
                  have hnb30 := NB402_387.out
                  have hnc30 := NB387_402.out
                  have hcz31_0 : w21.cell? ⟨gb402, 0, none⟩ = some (.int .i64 0) := (blk_cell BK402.out 0).trans rfl
                  have hcz31_1 : w21.cell? ⟨gb402, 1, none⟩ = some (.int .i64 0) := (blk_cell BK402.out 1).trans rfl
                  have hcz31_2 : w21.cell? ⟨gb402, 2, none⟩ = some (.bool false) := (blk_cell BK402.out 2).trans rfl
                  have hcz31_3 : w21.cell? ⟨gb402, 3, none⟩ = some (.bool false) := (blk_cell BK402.out 3).trans rfl
                  have hcz31_4 : w21.cell? ⟨gb402, 4, none⟩ = some (.int .i64 0) := (blk_cell BK402.out 4).trans rfl
                  have hcz31_5 : w21.cell? ⟨gb402, 5, none⟩ = some (.int .i64 0) := (blk_cell BK402.out 5).trans rfl
                  have hcz31_6 : w21.cell? ⟨gb402, 6, none⟩ = some (.int .i64 0) := (blk_cell BK402.out 6).trans rfl
                  have hcz31_7 : w21.cell? ⟨gb402, 7, none⟩ = some (.int .i64 0) := (blk_cell BK402.out 7).trans rfl
                  have hcz31_8 : w21.cell? ⟨gb402, 8, none⟩ = some (.int .i64 0) := (blk_cell BK402.out 8).trans rfl
                  have hcz31_9 : w21.cell? ⟨gb402, 9, none⟩ = some (.int .i64 0) := (blk_cell BK402.out 9).trans rfl
                  have hfz31_0 := blk_frozen BK402.out 0
                  have hfz31_1 := blk_frozen BK402.out 1
                  have hfz31_2 := blk_frozen BK402.out 2
                  have hfz31_3 := blk_frozen BK402.out 3
                  have hfz31_4 := blk_frozen BK402.out 4
                  have hfz31_5 := blk_frozen BK402.out 5
                  have hfz31_6 := blk_frozen BK402.out 6
                  have hfz31_7 := blk_frozen BK402.out 7
                  have hfz31_8 := blk_frozen BK402.out 8
                  have hfz31_9 := blk_frozen BK402.out 9
                  have hcz32_0 : w21.cell? ⟨gb387, 0, none⟩ = some (.int .i64 a0_0) := (blk_cell BK387.out 0).trans rfl
                  have hcz32_1 : w21.cell? ⟨gb387, 1, none⟩ = some (.int .i64 a0_1) := (blk_cell BK387.out 1).trans rfl
                  have hcz32_2 : w21.cell? ⟨gb387, 2, none⟩ = some (.bool a0_2) := (blk_cell BK387.out 2).trans rfl
                  have hcz32_3 : w21.cell? ⟨gb387, 3, none⟩ = some (.bool a0_3) := (blk_cell BK387.out 3).trans rfl
                  have hcz32_4 : w21.cell? ⟨gb387, 4, none⟩ = some (.int .i64 a0_4) := (blk_cell BK387.out 4).trans rfl
                  have hcz32_5 : w21.cell? ⟨gb387, 5, none⟩ = some (.int .i64 a0_5) := (blk_cell BK387.out 5).trans rfl
                  have hcz32_6 : w21.cell? ⟨gb387, 6, none⟩ = some (.int .i64 a0_6) := (blk_cell BK387.out 6).trans rfl
                  have hcz32_7 : w21.cell? ⟨gb387, 7, none⟩ = some (.int .i64 a0_7) := (blk_cell BK387.out 7).trans rfl
                  have hcz32_8 : w21.cell? ⟨gb387, 8, none⟩ = some (.int .i64 a0_8) := (blk_cell BK387.out 8).trans rfl
                  have hcz32_9 : w21.cell? ⟨gb387, 9, none⟩ = some (.int .i64 a0_9) := (blk_cell BK387.out 9).trans rfl
                  have hfz32_0 := blk_frozen BK387.out 0
                  have hfz32_1 := blk_frozen BK387.out 1
                  have hfz32_2 := blk_frozen BK387.out 2
                  have hfz32_3 := blk_frozen BK387.out 3
                  have hfz32_4 := blk_frozen BK387.out 4
                  have hfz32_5 := blk_frozen BK387.out 5
                  have hfz32_6 := blk_frozen BK387.out 6
                  have hfz32_7 := blk_frozen BK387.out 7
                  have hfz32_8 := blk_frozen BK387.out 8
                  have hfz32_9 := blk_frozen BK387.out 9
                  go_wp2_with (first | (go_at_call 13; (with_reducible refine (format_Bytes.calls a0_0 a0_1 a0_2 a0_3 a0_4 a0_5 a0_6 a0_7 a0_8 a0_9 t403 _ A29.out).mono ?_); rintro e w33 ⟨rfl, hb⟩; have n0_ := Aside0.mk (blk_below (g := gb387) (o := .cells #[.int .i64 a0_0, .int .i64 a0_1, .bool a0_2, .bool a0_3, .int .i64 a0_4, .int .i64 a0_5, .int .i64 a0_6, .int .i64 a0_7, .int .i64 a0_8, .int .i64 a0_9] 23 (0, 0)) (by (with_reducible repeat (first | refine blk_drewN ?_ _ | refine blk_drew ?_ | refine blk_alloc ?_ _)); refine blk_far ?_ NB387_402.out _; (with_reducible repeat (first | refine blk_drewN ?_ _ | refine blk_drew ?_ | refine blk_alloc ?_ _)); refine blk_far ?_ NB387_402.out _; (with_reducible repeat (first | refine blk_drewN ?_ _ | refine blk_drew ?_ | refine blk_alloc ?_ _)); refine blk_far ?_ NB387_402.out _; (with_reducible repeat (first | refine blk_drewN ?_ _ | refine blk_drew ?_ | refine blk_alloc ?_ _)); refine blk_far ?_ NB387_402.out _; (with_reducible repeat (first | refine blk_drewN ?_ _ | refine blk_drew ?_ | refine blk_alloc ?_ _)); refine blk_far ?_ NB387_402.out _; (with_reducible repeat (first | refine blk_drewN ?_ _ | refine blk_drew ?_ | refine blk_alloc ?_ _)); refine blk_far ?_ NB387_402.out _; (with_reducible repeat (first | refine blk_drewN ?_ _ | refine blk_drew ?_ | refine blk_alloc ?_ _)); refine blk_far ?_ NB387_402.out _; (with_reducible repeat (first | refine blk_drewN ?_ _ | refine blk_drew ?_ | refine blk_alloc ?_ _)); refine blk_far ?_ NB387_402.out _; (with_reducible repeat (first | refine blk_drewN ?_ _ | refine blk_drew ?_ | refine blk_alloc ?_ _)); refine blk_far ?_ NB387_402.out _; (with_reducible repeat (first | refine blk_drewN ?_ _ | refine blk_drew ?_ | refine blk_alloc ?_ _)); refine blk_far ?_ NB387_402.out _; (with_reducible repeat (first | refine blk_drewN ?_ _ | refine blk_drew ?_ | refine blk_alloc ?_ _)); exact BK387.out) hb); have n1_ := Aside0.mk (blk_below (g := gb402) (o := .cells #[.int .i64 t391, .int .i64 t392, .bool t393, .bool t394, .int .i64 t395, .int .i64 t396, .int .i64 t397, .int .i64 t398, .int .i64 t399, .int .i64 t400] 23 (0, 0)) (by (with_reducible repeat (first | refine blk_drewN ?_ _ | refine blk_drew ?_ | refine blk_alloc ?_ _)); refine blk_put (cs := #[.int .i64 t391, .int .i64 t392, .bool t393, .bool t394, .int .i64 t395, .int .i64 t396, .int .i64 t397, .int .i64 t398, .int .i64 t399, .int .i64 0]) ?_ 9 _ rfl; (with_reducible repeat (first | refine blk_drewN ?_ _ | refine blk_drew ?_ | refine blk_alloc ?_ _)); refine blk_put (cs := #[.int .i64 t391, .int .i64 t392, .bool t393, .bool t394, .int .i64 t395, .int .i64 t396, .int .i64 t397, .int .i64 t398, .int .i64 0, .int .i64 0]) ?_ 8 _ rfl; (with_reducible repeat (first | refine blk_drewN ?_ _ | refine blk_drew ?_ | refine blk_alloc ?_ _)); refine blk_put (cs := #[.int .i64 t391, .int .i64 t392, .bool t393, .bool t394, .int .i64 t395, .int .i64 t396, .int .i64 t397, .int .i64 0, .int .i64 0, .int .i64 0]) ?_ 7 _ rfl; (with_reducible repeat (first | refine blk_drewN ?_ _ | refine blk_drew ?_ | refine blk_alloc ?_ _)); refine blk_put (cs := #[.int .i64 t391, .int .i64 t392, .bool t393, .bool t394, .int .i64 t395, .int .i64 t396, .int .i64 0, .int .i64 0, .int .i64 0, .int .i64 0]) ?_ 6 _ rfl; (with_reducible repeat (first | refine blk_drewN ?_ _ | refine blk_drew ?_ | refine blk_alloc ?_ _)); refine blk_put (cs := #[.int .i64 t391, .int .i64 t392, .bool t393, .bool t394, .int .i64 t395, .int .i64 0, .int .i64 0, .int .i64 0, .int .i64 0, .int .i64 0]) ?_ 5 _ rfl; (with_reducible repeat (first | refine blk_drewN ?_ _ | refine blk_drew ?_ | refine blk_alloc ?_ _)); refine blk_put (cs := #[.int .i64 t391, .int .i64 t392, .bool t393, .bool t394, .int .i64 0, .int .i64 0, .int .i64 0, .int .i64 0, .int .i64 0, .int .i64 0]) ?_ 4 _ rfl; (with_reducible repeat (first | refine blk_drewN ?_ _ | refine blk_drew ?_ | refine blk_alloc ?_ _)); refine blk_put (cs := #[.int .i64 t391, .int .i64 t392, .bool t393, .bool false, .int .i64 0, .int .i64 0, .int .i64 0, .int .i64 0, .int .i64 0, .int .i64 0]) ?_ 3 _ rfl; (with_reducible repeat (first | refine blk_drewN ?_ _ | refine blk_drew ?_ | refine blk_alloc ?_ _)); refine blk_put (cs := #[.int .i64 t391, .int .i64 t392, .bool false, .bool false, .int .i64 0, .int .i64 0, .int .i64 0, .int .i64 0, .int .i64 0, .int .i64 0]) ?_ 2 _ rfl; (with_reducible repeat (first | refine blk_drewN ?_ _ | refine blk_drew ?_ | refine blk_alloc ?_ _)); refine blk_put (cs := #[.int .i64 t391, .int .i64 0, .bool false, .bool false, .int .i64 0, .int .i64 0, .int .i64 0, .int .i64 0, .int .i64 0, .int .i64 0]) ?_ 1 _ rfl; (with_reducible repeat (first | refine blk_drewN ?_ _ | refine blk_drew ?_ | refine blk_alloc ?_ _)); refine blk_put (cs := #[.int .i64 0, .int .i64 0, .bool false, .bool false, .int .i64 0, .int .i64 0, .int .i64 0, .int .i64 0, .int .i64 0, .int .i64 0]) ?_ 0 _ rfl; (with_reducible repeat (first | refine blk_drewN ?_ _ | refine blk_drew ?_ | refine blk_alloc ?_ _)); exact BK402.out) hb); have n2_ := Aside0.mk (below_step (by repeat (first | (with_reducible first | exact HB.out | apply below_alloc | apply pw_below_drewN | apply below_drew1 | refine below_set ?_ GE387.out | refine below_set ?_ GE402.out) | exact HB.out)) hb); clear BK387; clear BK402; clear HB; have BK387 := n0_; have BK402 := n1_; have HB := n2_; clear n0_ n1_ n2_; (try clear hb); (try clear hb2); (try clear hk); (try clear hi)))
                  go_meet
                  case rel => exact ⟨_, (((t403.size : Int) != 16)), (by first | rfl | (simp; done) | (simp [*]; done)), H', ⟨by have := HJ5.out; first | omega | exact Nat.le_refl _⟩, ⟨by (with_reducible repeat (first | refine blk_drewN ?_ _ | refine blk_drew ?_ | refine blk_alloc ?_ _)); exact BK387.out⟩, ⟨by (with_reducible repeat (first | refine blk_drewN ?_ _ | refine blk_drew ?_ | refine blk_alloc ?_ _)); exact BK402.out⟩, ⟨by repeat (first | (with_reducible first | exact HB.out | apply below_alloc | apply pw_below_drewN | apply below_drew1 | refine below_set ?_ GE387.out | refine below_set ?_ GE402.out) | exact HB.out)⟩⟩
                · rw [if_neg c28] at H
                  have c28b0 : (t401 == 0) = false := beq_eq_false_iff_ne.mpr c28
                  have c28b1 : (t401 != 0) = true := bne_iff_ne.mpr c28
                  have H' := Aside0.mk H
                  clear H
                  have hnb34 := NB402_387.out
                  have hnc34 := NB387_402.out
                  have hcz35_0 : w21.cell? ⟨gb402, 0, none⟩ = some (.int .i64 0) := (blk_cell BK402.out 0).trans rfl
                  have hcz35_1 : w21.cell? ⟨gb402, 1, none⟩ = some (.int .i64 0) := (blk_cell BK402.out 1).trans rfl
                  have hcz35_2 : w21.cell? ⟨gb402, 2, none⟩ = some (.bool false) := (blk_cell BK402.out 2).trans rfl
                  have hcz35_3 : w21.cell? ⟨gb402, 3, none⟩ = some (.bool false) := (blk_cell BK402.out 3).trans rfl
                  have hcz35_4 : w21.cell? ⟨gb402, 4, none⟩ = some (.int .i64 0) := (blk_cell BK402.out 4).trans rfl
                  have hcz35_5 : w21.cell? ⟨gb402, 5, none⟩ = some (.int .i64 0) := (blk_cell BK402.out 5).trans rfl
                  have hcz35_6 : w21.cell? ⟨gb402, 6, none⟩ = some (.int .i64 0) := (blk_cell BK402.out 6).trans rfl
                  have hcz35_7 : w21.cell? ⟨gb402, 7, none⟩ = some (.int .i64 0) := (blk_cell BK402.out 7).trans rfl
                  have hcz35_8 : w21.cell? ⟨gb402, 8, none⟩ = some (.int .i64 0) := (blk_cell BK402.out 8).trans rfl
                  have hcz35_9 : w21.cell? ⟨gb402, 9, none⟩ = some (.int .i64 0) := (blk_cell BK402.out 9).trans rfl
                  have hfz35_0 := blk_frozen BK402.out 0
                  have hfz35_1 := blk_frozen BK402.out 1
                  have hfz35_2 := blk_frozen BK402.out 2
                  have hfz35_3 := blk_frozen BK402.out 3
                  have hfz35_4 := blk_frozen BK402.out 4
                  have hfz35_5 := blk_frozen BK402.out 5
                  have hfz35_6 := blk_frozen BK402.out 6
                  have hfz35_7 := blk_frozen BK402.out 7
                  have hfz35_8 := blk_frozen BK402.out 8
                  have hfz35_9 := blk_frozen BK402.out 9
                  have hcz36_0 : w21.cell? ⟨gb387, 0, none⟩ = some (.int .i64 a0_0) := (blk_cell BK387.out 0).trans rfl
                  have hcz36_1 : w21.cell? ⟨gb387, 1, none⟩ = some (.int .i64 a0_1) := (blk_cell BK387.out 1).trans rfl
                  have hcz36_2 : w21.cell? ⟨gb387, 2, none⟩ = some (.bool a0_2) := (blk_cell BK387.out 2).trans rfl
                  have hcz36_3 : w21.cell? ⟨gb387, 3, none⟩ = some (.bool a0_3) := (blk_cell BK387.out 3).trans rfl
                  have hcz36_4 : w21.cell? ⟨gb387, 4, none⟩ = some (.int .i64 a0_4) := (blk_cell BK387.out 4).trans rfl
                  have hcz36_5 : w21.cell? ⟨gb387, 5, none⟩ = some (.int .i64 a0_5) := (blk_cell BK387.out 5).trans rfl
                  have hcz36_6 : w21.cell? ⟨gb387, 6, none⟩ = some (.int .i64 a0_6) := (blk_cell BK387.out 6).trans rfl
                  have hcz36_7 : w21.cell? ⟨gb387, 7, none⟩ = some (.int .i64 a0_7) := (blk_cell BK387.out 7).trans rfl
                  have hcz36_8 : w21.cell? ⟨gb387, 8, none⟩ = some (.int .i64 a0_8) := (blk_cell BK387.out 8).trans rfl
                  have hcz36_9 : w21.cell? ⟨gb387, 9, none⟩ = some (.int .i64 a0_9) := (blk_cell BK387.out 9).trans rfl
                  have hfz36_0 := blk_frozen BK387.out 0
                  have hfz36_1 := blk_frozen BK387.out 1
                  have hfz36_2 := blk_frozen BK387.out 2
                  have hfz36_3 := blk_frozen BK387.out 3
                  have hfz36_4 := blk_frozen BK387.out 4
                  have hfz36_5 := blk_frozen BK387.out 5
                  have hfz36_6 := blk_frozen BK387.out 6
                  have hfz36_7 := blk_frozen BK387.out 7
                  have hfz36_8 := blk_frozen BK387.out 8
                  have hfz36_9 := blk_frozen BK387.out 9
                  go_wp2
                  go_meet
                  case rel => exact ⟨_, (true), (by first | rfl | (simp; done) | (simp [*]; done)), H', ⟨by have := HJ5.out; first | omega | exact Nat.le_refl _⟩, ⟨by (with_reducible repeat (first | refine blk_drewN ?_ _ | refine blk_drew ?_ | refine blk_alloc ?_ _)); refine blk_far ?_ NB387_402.out _; (with_reducible repeat (first | refine blk_drewN ?_ _ | refine blk_drew ?_ | refine blk_alloc ?_ _)); refine blk_far ?_ NB387_402.out _; (with_reducible repeat (first | refine blk_drewN ?_ _ | refine blk_drew ?_ | refine blk_alloc ?_ _)); refine blk_far ?_ NB387_402.out _; (with_reducible repeat (first | refine blk_drewN ?_ _ | refine blk_drew ?_ | refine blk_alloc ?_ _)); refine blk_far ?_ NB387_402.out _; (with_reducible repeat (first | refine blk_drewN ?_ _ | refine blk_drew ?_ | refine blk_alloc ?_ _)); refine blk_far ?_ NB387_402.out _; (with_reducible repeat (first | refine blk_drewN ?_ _ | refine blk_drew ?_ | refine blk_alloc ?_ _)); refine blk_far ?_ NB387_402.out _; (with_reducible repeat (first | refine blk_drewN ?_ _ | refine blk_drew ?_ | refine blk_alloc ?_ _)); refine blk_far ?_ NB387_402.out _; (with_reducible repeat (first | refine blk_drewN ?_ _ | refine blk_drew ?_ | refine blk_alloc ?_ _)); refine blk_far ?_ NB387_402.out _; (with_reducible repeat (first | refine blk_drewN ?_ _ | refine blk_drew ?_ | refine blk_alloc ?_ _)); refine blk_far ?_ NB387_402.out _; (with_reducible repeat (first | refine blk_drewN ?_ _ | refine blk_drew ?_ | refine blk_alloc ?_ _)); refine blk_far ?_ NB387_402.out _; (with_reducible repeat (first | refine blk_drewN ?_ _ | refine blk_drew ?_ | refine blk_alloc ?_ _)); exact BK387.out⟩, ⟨by (with_reducible repeat (first | refine blk_drewN ?_ _ | refine blk_drew ?_ | refine blk_alloc ?_ _)); refine blk_put (cs := #[.int .i64 t391, .int .i64 t392, .bool t393, .bool t394, .int .i64 t395, .int .i64 t396, .int .i64 t397, .int .i64 t398, .int .i64 t399, .int .i64 0]) ?_ 9 _ rfl; (with_reducible repeat (first | refine blk_drewN ?_ _ | refine blk_drew ?_ | refine blk_alloc ?_ _)); refine blk_put (cs := #[.int .i64 t391, .int .i64 t392, .bool t393, .bool t394, .int .i64 t395, .int .i64 t396, .int .i64 t397, .int .i64 t398, .int .i64 0, .int .i64 0]) ?_ 8 _ rfl; (with_reducible repeat (first | refine blk_drewN ?_ _ | refine blk_drew ?_ | refine blk_alloc ?_ _)); refine blk_put (cs := #[.int .i64 t391, .int .i64 t392, .bool t393, .bool t394, .int .i64 t395, .int .i64 t396, .int .i64 t397, .int .i64 0, .int .i64 0, .int .i64 0]) ?_ 7 _ rfl; (with_reducible repeat (first | refine blk_drewN ?_ _ | refine blk_drew ?_ | refine blk_alloc ?_ _)); refine blk_put (cs := #[.int .i64 t391, .int .i64 t392, .bool t393, .bool t394, .int .i64 t395, .int .i64 t396, .int .i64 0, .int .i64 0, .int .i64 0, .int .i64 0]) ?_ 6 _ rfl; (with_reducible repeat (first | refine blk_drewN ?_ _ | refine blk_drew ?_ | refine blk_alloc ?_ _)); refine blk_put (cs := #[.int .i64 t391, .int .i64 t392, .bool t393, .bool t394, .int .i64 t395, .int .i64 0, .int .i64 0, .int .i64 0, .int .i64 0, .int .i64 0]) ?_ 5 _ rfl; (with_reducible repeat (first | refine blk_drewN ?_ _ | refine blk_drew ?_ | refine blk_alloc ?_ _)); refine blk_put (cs := #[.int .i64 t391, .int .i64 t392, .bool t393, .bool t394, .int .i64 0, .int .i64 0, .int .i64 0, .int .i64 0, .int .i64 0, .int .i64 0]) ?_ 4 _ rfl; (with_reducible repeat (first | refine blk_drewN ?_ _ | refine blk_drew ?_ | refine blk_alloc ?_ _)); refine blk_put (cs := #[.int .i64 t391, .int .i64 t392, .bool t393, .bool false, .int .i64 0, .int .i64 0, .int .i64 0, .int .i64 0, .int .i64 0, .int .i64 0]) ?_ 3 _ rfl; (with_reducible repeat (first | refine blk_drewN ?_ _ | refine blk_drew ?_ | refine blk_alloc ?_ _)); refine blk_put (cs := #[.int .i64 t391, .int .i64 t392, .bool false, .bool false, .int .i64 0, .int .i64 0, .int .i64 0, .int .i64 0, .int .i64 0, .int .i64 0]) ?_ 2 _ rfl; (with_reducible repeat (first | refine blk_drewN ?_ _ | refine blk_drew ?_ | refine blk_alloc ?_ _)); refine blk_put (cs := #[.int .i64 t391, .int .i64 0, .bool false, .bool false, .int .i64 0, .int .i64 0, .int .i64 0, .int .i64 0, .int .i64 0, .int .i64 0]) ?_ 1 _ rfl; (with_reducible repeat (first | refine blk_drewN ?_ _ | refine blk_drew ?_ | refine blk_alloc ?_ _)); refine blk_put (cs := #[.int .i64 0, .int .i64 0, .bool false, .bool false, .int .i64 0, .int .i64 0, .int .i64 0, .int .i64 0, .int .i64 0, .int .i64 0]) ?_ 0 _ rfl; (with_reducible repeat (first | refine blk_drewN ?_ _ | refine blk_drew ?_ | refine blk_alloc ?_ _)); exact BK402.out⟩, ⟨by repeat (first | (with_reducible first | exact HB.out | apply below_alloc | apply pw_below_drewN | apply below_drew1 | refine below_set ?_ GE387.out | refine below_set ?_ GE402.out) | exact HB.out)⟩⟩
            case rest =>
              clear HC17
              try clear c1
              try clear c2
              try clear p2
              try clear c3
              try clear c5
              try clear c7
              try clear c8
              try clear c9
              try clear c9b0
              try clear c9b1
              try clear c13
              try clear c15
              try clear c15b0
              try clear c15b1
              try clear c15b2
              try clear c22
              try clear c24
              try clear c24b0
              try clear c25
              try clear c28
              try clear c28b0
              try clear c28b1
              try clear c30
              try clear c34
              try clear hcz11_0
              try clear hcz11_1
              try clear hcz11_2
              try clear hcz11_3
              try clear hcz11_4
              try clear hcz11_5
              try clear hcz11_6
              try clear hcz11_7
              try clear hcz11_8
              try clear hcz11_9
              try clear hcz18_0
              try clear hcz18_1
              try clear hcz18_2
              try clear hcz18_3
              try clear hcz18_4
              try clear hcz18_5
              try clear hcz18_6
              try clear hcz18_7
              try clear hcz18_8
              try clear hcz18_9
              try clear hcz23_0
              try clear hcz23_1
              try clear hcz23_2
              try clear hcz23_3
              try clear hcz23_4
              try clear hcz23_5
              try clear hcz23_6
              try clear hcz23_7
              try clear hcz23_8
              try clear hcz23_9
              try clear hcz26_0
              try clear hcz26_1
              try clear hcz26_2
              try clear hcz26_3
              try clear hcz26_4
              try clear hcz26_5
              try clear hcz26_6
              try clear hcz26_7
              try clear hcz26_8
              try clear hcz26_9
              try clear hcz27_0
              try clear hcz27_1
              try clear hcz27_2
              try clear hcz27_3
              try clear hcz27_4
              try clear hcz27_5
              try clear hcz27_6
              try clear hcz27_7
              try clear hcz27_8
              try clear hcz27_9
              try clear hcz31_0
              try clear hcz31_1
              try clear hcz31_2
              try clear hcz31_3
              try clear hcz31_4
              try clear hcz31_5
              try clear hcz31_6
              try clear hcz31_7
              try clear hcz31_8
              try clear hcz31_9
              try clear hcz32_0
              try clear hcz32_1
              try clear hcz32_2
              try clear hcz32_3
              try clear hcz32_4
              try clear hcz32_5
              try clear hcz32_6
              try clear hcz32_7
              try clear hcz32_8
              try clear hcz32_9
              try clear hcz35_0
              try clear hcz35_1
              try clear hcz35_2
              try clear hcz35_3
              try clear hcz35_4
              try clear hcz35_5
              try clear hcz35_6
              try clear hcz35_7
              try clear hcz35_8
              try clear hcz35_9
              try clear hcz36_0
              try clear hcz36_1
              try clear hcz36_2
              try clear hcz36_3
              try clear hcz36_4
              try clear hcz36_5
              try clear hcz36_6
              try clear hcz36_7
              try clear hcz36_8
              try clear hcz36_9
              try clear hfz11_0
              try clear hfz11_1
              try clear hfz11_2
              try clear hfz11_3
              try clear hfz11_4
              try clear hfz11_5
              try clear hfz11_6
              try clear hfz11_7
              try clear hfz11_8
              try clear hfz11_9
              try clear hfz18_0
              try clear hfz18_1
              try clear hfz18_2
              try clear hfz18_3
              try clear hfz18_4
              try clear hfz18_5
              try clear hfz18_6
              try clear hfz18_7
              try clear hfz18_8
              try clear hfz18_9
              try clear hfz23_0
              try clear hfz23_1
              try clear hfz23_2
              try clear hfz23_3
              try clear hfz23_4
              try clear hfz23_5
              try clear hfz23_6
              try clear hfz23_7
              try clear hfz23_8
              try clear hfz23_9
              try clear hfz26_0
              try clear hfz26_1
              try clear hfz26_2
              try clear hfz26_3
              try clear hfz26_4
              try clear hfz26_5
              try clear hfz26_6
              try clear hfz26_7
              try clear hfz26_8
              try clear hfz26_9
              try clear hfz27_0
              try clear hfz27_1
              try clear hfz27_2
              try clear hfz27_3
              try clear hfz27_4
              try clear hfz27_5
              try clear hfz27_6
              try clear hfz27_7
              try clear hfz27_8
              try clear hfz27_9
              try clear hfz31_0
              try clear hfz31_1
              try clear hfz31_2
              try clear hfz31_3
              try clear hfz31_4
              try clear hfz31_5
              try clear hfz31_6
              try clear hfz31_7
              try clear hfz31_8
              try clear hfz31_9
              try clear hfz32_0
              try clear hfz32_1
              try clear hfz32_2
              try clear hfz32_3
              try clear hfz32_4
              try clear hfz32_5
              try clear hfz32_6
              try clear hfz32_7
              try clear hfz32_8
              try clear hfz32_9
              try clear hfz35_0
              try clear hfz35_1
              try clear hfz35_2
              try clear hfz35_3
              try clear hfz35_4
              try clear hfz35_5
              try clear hfz35_6
              try clear hfz35_7
              try clear hfz35_8
              try clear hfz35_9
              try clear hfz36_0
              try clear hfz36_1
              try clear hfz36_2
              try clear hfz36_3
              try clear hfz36_4
              try clear hfz36_5
              try clear hfz36_6
              try clear hfz36_7
              try clear hfz36_8
              try clear hfz36_9
              try clear p2
              obtain ⟨kq, x50_16, rfl, HA, HJ16, BK387, BK402, HB⟩ := hcut
              cases kq with
              | zero => exact absurd HA.out (by simp [miradorlaw13_FormatBack.j1])
              | succ kj16 =>
                have H := HA.out
                clear HA
                simp only [miradorlaw13_FormatBack.j1] at H
                by_cases c37 : x50_16 = true
                · subst c37
                  have H1 : (some false) = some r := by rw [if_pos rfl] at H; exact H
                  clear H
                  have H := H1
                  clear H1
                  rw [HRT.out] at H
                  exact absurd (Option.some.inj H) (by decide)
                · replace c37 := Bool.eq_false_iff.mpr c37
                  subst c37
                  have H1 : (if 0 ≤ a0_0 then ((format_Put.f kj16 a0_0 a0_1 a0_2 a0_3 a0_4 a0_5 a0_6 a0_7 a0_8 a0_9 a1).bind fun t404 => (if t404.size + a2.size ≤ 9223372036854775807 then ((format_Get.f kj16 a0_0 a0_1 a0_2 a0_3 a0_4 a0_5 a0_6 a0_7 a0_8 a0_9 (t404 ++ a2)).bind fun bt405 => ((format_Value.f a0_0 a0_1 a0_2 a0_3 a0_4 a0_5 a0_6 a0_7 a0_8 a0_9 a1).bind fun t407 => ((format_CPut.f kj16 a0_0 a0_1 a0_2 a0_3 a0_4 a0_5 a0_6 a0_7 a0_8 a0_9 t407).bind fun t408 => (if t408.size + a2.size ≤ 9223372036854775807 then ((format_CGet.f kj16 a0_0 a0_1 a0_2 a0_3 a0_4 a0_5 a0_6 a0_7 a0_8 a0_9 (t408 ++ a2)).bind fun bt409 => ((format_Compact.f a0_0 a0_1 a0_2 a0_3 a0_4 a0_5 a0_6 a0_7 a0_8 a0_9).bind fun bt411 => (if true = true then (if bt405.1 = (Go.bits .and .i64 a1 (wrap64 ((shl .i64 1 a0_0) - 1))) then (if bt405.2 = 0 then (if bt409.1 = t407 then (if bt409.2 = 0 then ((format_Put.f kj16 a0_0 a0_1 a0_2 a0_3 a0_4 a0_5 a0_6 a0_7 a0_8 a0_9 a1).bind fun t413 => ((format_Size.f a0_0 a0_1 a0_2 a0_3 a0_4 a0_5 a0_6 a0_7 a0_8 a0_9).bind fun t414 => (if (t413.size : Int) = t414 then ((format_CPut.f kj16 a0_0 a0_1 a0_2 a0_3 a0_4 a0_5 a0_6 a0_7 a0_8 a0_9 t407).bind fun t415 => (if (t415.size : Int) = bt411.1 then (if t407 ≥ 0 then (some (decide (t407 < (shl .i64 1 a0_0)))) else (some false)) else (some false))) else (some false)))) else (some false)) else (some false)) else (some false)) else (some false)) else (some false)))) else (none))))) else (none))) else (none)) = some r := by rw [if_neg (show ¬ (false = true) by decide)] at H; exact H
                  clear H
                  have H := H1
                  clear H1
                  by_cases c38 : 0 ≤ a0_0
                  · rw [if_pos c38] at H
                    have c38b0 := eq_true c38
                    have c38b1 : decide (0 ≤ a0_0) = true := decide_eq_true c38
                    clear c38
                    obtain ⟨ji39, hji39⟩ : ∃ j_ : Int, (shl .i64 1 a0_0) = j_ := ⟨_, rfl⟩
                    replace H : ((format_Put.f kj16 a0_0 a0_1 a0_2 a0_3 a0_4 a0_5 a0_6 a0_7 a0_8 a0_9 a1).bind fun t404 => (if t404.size + a2.size ≤ 9223372036854775807 then ((format_Get.f kj16 a0_0 a0_1 a0_2 a0_3 a0_4 a0_5 a0_6 a0_7 a0_8 a0_9 (t404 ++ a2)).bind fun bt405 => ((format_Value.f a0_0 a0_1 a0_2 a0_3 a0_4 a0_5 a0_6 a0_7 a0_8 a0_9 a1).bind fun t407 => ((format_CPut.f kj16 a0_0 a0_1 a0_2 a0_3 a0_4 a0_5 a0_6 a0_7 a0_8 a0_9 t407).bind fun t408 => (if t408.size + a2.size ≤ 9223372036854775807 then ((format_CGet.f kj16 a0_0 a0_1 a0_2 a0_3 a0_4 a0_5 a0_6 a0_7 a0_8 a0_9 (t408 ++ a2)).bind fun bt409 => ((format_Compact.f a0_0 a0_1 a0_2 a0_3 a0_4 a0_5 a0_6 a0_7 a0_8 a0_9).bind fun bt411 => (if true = true then (if bt405.1 = (Go.bits .and .i64 a1 (wrap64 ((ji39) - 1))) then (if bt405.2 = 0 then (if bt409.1 = t407 then (if bt409.2 = 0 then ((format_Put.f kj16 a0_0 a0_1 a0_2 a0_3 a0_4 a0_5 a0_6 a0_7 a0_8 a0_9 a1).bind fun t413 => ((format_Size.f a0_0 a0_1 a0_2 a0_3 a0_4 a0_5 a0_6 a0_7 a0_8 a0_9).bind fun t414 => (if (t413.size : Int) = t414 then ((format_CPut.f kj16 a0_0 a0_1 a0_2 a0_3 a0_4 a0_5 a0_6 a0_7 a0_8 a0_9 t407).bind fun t415 => (if (t415.size : Int) = bt411.1 then (if t407 ≥ 0 then (some (decide (t407 < (ji39)))) else (some false)) else (some false))) else (some false)))) else (some false)) else (some false)) else (some false)) else (some false)) else (some false)))) else (none))))) else (none))) = some r := by first | (rw [hji39] at H; exact H) | (simp only [hji39] at H ⊢; exact H)
                    have hji39_ : (IntKind.i64.wrap (1 * 2 ^ min a0_0.toNat 64)) = ji39 := hji39
                    have hji39z : a0_0 ≤ 64 → (IntKind.i64.wrap (1 * 2 ^ a0_0.toNat)) = ji39 := shl_small hji39
                    have hji39u : (IntKind.i64.wrap (2 ^ min a0_0.toNat 64)) = ji39 := by have h_ := hji39_; rw [Int.one_mul] at h_; exact h_
                    have hji39v : a0_0 ≤ 64 → (IntKind.i64.wrap (2 ^ a0_0.toNat)) = ji39 := fun hle_ => by have h_ := hji39z hle_; rw [Int.one_mul] at h_; exact h_
                    have hji39y : (wrap64 (1 * 2 ^ min a0_0.toNat 64)) = ji39 := (i64_w _).symm.trans hji39_
                    have hji39x : a0_0 ≤ 64 → (wrap64 (1 * 2 ^ a0_0.toNat)) = ji39 := fun h_ => (i64_w _).symm.trans (hji39z h_)
                    replace H := Option.bind_eq_some_iff.mp H
                    obtain ⟨t404, A400, H⟩ := H
                    replace H : (if t404.size + a2.size ≤ 9223372036854775807 then ((format_Get.f kj16 a0_0 a0_1 a0_2 a0_3 a0_4 a0_5 a0_6 a0_7 a0_8 a0_9 (t404 ++ a2)).bind fun bt405 => ((format_Value.f a0_0 a0_1 a0_2 a0_3 a0_4 a0_5 a0_6 a0_7 a0_8 a0_9 a1).bind fun t407 => ((format_CPut.f kj16 a0_0 a0_1 a0_2 a0_3 a0_4 a0_5 a0_6 a0_7 a0_8 a0_9 t407).bind fun t408 => (if t408.size + a2.size ≤ 9223372036854775807 then ((format_CGet.f kj16 a0_0 a0_1 a0_2 a0_3 a0_4 a0_5 a0_6 a0_7 a0_8 a0_9 (t408 ++ a2)).bind fun bt409 => ((format_Compact.f a0_0 a0_1 a0_2 a0_3 a0_4 a0_5 a0_6 a0_7 a0_8 a0_9).bind fun bt411 => (if true = true then (if bt405.1 = (Go.bits .and .i64 a1 (wrap64 ((ji39) - 1))) then (if bt405.2 = 0 then (if bt409.1 = t407 then (if bt409.2 = 0 then ((format_Put.f kj16 a0_0 a0_1 a0_2 a0_3 a0_4 a0_5 a0_6 a0_7 a0_8 a0_9 a1).bind fun t413 => ((format_Size.f a0_0 a0_1 a0_2 a0_3 a0_4 a0_5 a0_6 a0_7 a0_8 a0_9).bind fun t414 => (if (t413.size : Int) = t414 then ((format_CPut.f kj16 a0_0 a0_1 a0_2 a0_3 a0_4 a0_5 a0_6 a0_7 a0_8 a0_9 t407).bind fun t415 => (if (t415.size : Int) = bt411.1 then (if t407 ≥ 0 then (some (decide (t407 < (ji39)))) else (some false)) else (some false))) else (some false)))) else (some false)) else (some false)) else (some false)) else (some false)) else (some false)))) else (none))))) else (none)) = some r := H
                    have A40 := Aside0.mk A400
                    clear A400
                    by_cases c41 : t404.size + a2.size ≤ 9223372036854775807
                    · rw [if_pos c41] at H
                      have c41b0 := eq_true c41
                      have c41b1 : decide (t404.size + a2.size ≤ 9223372036854775807) = true := decide_eq_true c41
                      try have c41b2 : (9223372036854775807 < t404.size + a2.size) = False := eq_false (Nat.not_lt.2 c41)
                      replace H := Option.bind_eq_some_iff.mp H
                      obtain ⟨⟨t405, t406⟩, A420, H⟩ := H
                      replace H : ((format_Value.f a0_0 a0_1 a0_2 a0_3 a0_4 a0_5 a0_6 a0_7 a0_8 a0_9 a1).bind fun t407 => ((format_CPut.f kj16 a0_0 a0_1 a0_2 a0_3 a0_4 a0_5 a0_6 a0_7 a0_8 a0_9 t407).bind fun t408 => (if t408.size + a2.size ≤ 9223372036854775807 then ((format_CGet.f kj16 a0_0 a0_1 a0_2 a0_3 a0_4 a0_5 a0_6 a0_7 a0_8 a0_9 (t408 ++ a2)).bind fun bt409 => ((format_Compact.f a0_0 a0_1 a0_2 a0_3 a0_4 a0_5 a0_6 a0_7 a0_8 a0_9).bind fun bt411 => (if true = true then (if t405 = (Go.bits .and .i64 a1 (wrap64 ((ji39) - 1))) then (if t406 = 0 then (if bt409.1 = t407 then (if bt409.2 = 0 then ((format_Put.f kj16 a0_0 a0_1 a0_2 a0_3 a0_4 a0_5 a0_6 a0_7 a0_8 a0_9 a1).bind fun t413 => ((format_Size.f a0_0 a0_1 a0_2 a0_3 a0_4 a0_5 a0_6 a0_7 a0_8 a0_9).bind fun t414 => (if (t413.size : Int) = t414 then ((format_CPut.f kj16 a0_0 a0_1 a0_2 a0_3 a0_4 a0_5 a0_6 a0_7 a0_8 a0_9 t407).bind fun t415 => (if (t415.size : Int) = bt411.1 then (if t407 ≥ 0 then (some (decide (t407 < (ji39)))) else (some false)) else (some false))) else (some false)))) else (some false)) else (some false)) else (some false)) else (some false)) else (some false)))) else (none)))) = some r := H
                      have A42 := Aside0.mk A420
                      clear A420
                      replace H := Option.bind_eq_some_iff.mp H
                      obtain ⟨t407, A430, H⟩ := H
                      replace H : ((format_CPut.f kj16 a0_0 a0_1 a0_2 a0_3 a0_4 a0_5 a0_6 a0_7 a0_8 a0_9 t407).bind fun t408 => (if t408.size + a2.size ≤ 9223372036854775807 then ((format_CGet.f kj16 a0_0 a0_1 a0_2 a0_3 a0_4 a0_5 a0_6 a0_7 a0_8 a0_9 (t408 ++ a2)).bind fun bt409 => ((format_Compact.f a0_0 a0_1 a0_2 a0_3 a0_4 a0_5 a0_6 a0_7 a0_8 a0_9).bind fun bt411 => (if true = true then (if t405 = (Go.bits .and .i64 a1 (wrap64 ((ji39) - 1))) then (if t406 = 0 then (if bt409.1 = t407 then (if bt409.2 = 0 then ((format_Put.f kj16 a0_0 a0_1 a0_2 a0_3 a0_4 a0_5 a0_6 a0_7 a0_8 a0_9 a1).bind fun t413 => ((format_Size.f a0_0 a0_1 a0_2 a0_3 a0_4 a0_5 a0_6 a0_7 a0_8 a0_9).bind fun t414 => (if (t413.size : Int) = t414 then ((format_CPut.f kj16 a0_0 a0_1 a0_2 a0_3 a0_4 a0_5 a0_6 a0_7 a0_8 a0_9 t407).bind fun t415 => (if (t415.size : Int) = bt411.1 then (if t407 ≥ 0 then (some (decide (t407 < (ji39)))) else (some false)) else (some false))) else (some false)))) else (some false)) else (some false)) else (some false)) else (some false)) else (some false)))) else (none))) = some r := H
                      have A43 := Aside0.mk A430
                      clear A430
                      replace H := Option.bind_eq_some_iff.mp H
                      obtain ⟨t408, A440, H⟩ := H
                      replace H : (if t408.size + a2.size ≤ 9223372036854775807 then ((format_CGet.f kj16 a0_0 a0_1 a0_2 a0_3 a0_4 a0_5 a0_6 a0_7 a0_8 a0_9 (t408 ++ a2)).bind fun bt409 => ((format_Compact.f a0_0 a0_1 a0_2 a0_3 a0_4 a0_5 a0_6 a0_7 a0_8 a0_9).bind fun bt411 => (if true = true then (if t405 = (Go.bits .and .i64 a1 (wrap64 ((ji39) - 1))) then (if t406 = 0 then (if bt409.1 = t407 then (if bt409.2 = 0 then ((format_Put.f kj16 a0_0 a0_1 a0_2 a0_3 a0_4 a0_5 a0_6 a0_7 a0_8 a0_9 a1).bind fun t413 => ((format_Size.f a0_0 a0_1 a0_2 a0_3 a0_4 a0_5 a0_6 a0_7 a0_8 a0_9).bind fun t414 => (if (t413.size : Int) = t414 then ((format_CPut.f kj16 a0_0 a0_1 a0_2 a0_3 a0_4 a0_5 a0_6 a0_7 a0_8 a0_9 t407).bind fun t415 => (if (t415.size : Int) = bt411.1 then (if t407 ≥ 0 then (some (decide (t407 < (ji39)))) else (some false)) else (some false))) else (some false)))) else (some false)) else (some false)) else (some false)) else (some false)) else (some false)))) else (none)) = some r := H
                      have A44 := Aside0.mk A440
                      clear A440
                      by_cases c45 : t408.size + a2.size ≤ 9223372036854775807
                      · rw [if_pos c45] at H
                        have c45b0 := eq_true c45
                        have c45b1 : decide (t408.size + a2.size ≤ 9223372036854775807) = true := decide_eq_true c45
                        try have c45b2 : (9223372036854775807 < t408.size + a2.size) = False := eq_false (Nat.not_lt.2 c45)
                        replace H := Option.bind_eq_some_iff.mp H
                        obtain ⟨⟨t409, t410⟩, A460, H⟩ := H
                        replace H : ((format_Compact.f a0_0 a0_1 a0_2 a0_3 a0_4 a0_5 a0_6 a0_7 a0_8 a0_9).bind fun bt411 => (if true = true then (if t405 = (Go.bits .and .i64 a1 (wrap64 ((ji39) - 1))) then (if t406 = 0 then (if t409 = t407 then (if t410 = 0 then ((format_Put.f kj16 a0_0 a0_1 a0_2 a0_3 a0_4 a0_5 a0_6 a0_7 a0_8 a0_9 a1).bind fun t413 => ((format_Size.f a0_0 a0_1 a0_2 a0_3 a0_4 a0_5 a0_6 a0_7 a0_8 a0_9).bind fun t414 => (if (t413.size : Int) = t414 then ((format_CPut.f kj16 a0_0 a0_1 a0_2 a0_3 a0_4 a0_5 a0_6 a0_7 a0_8 a0_9 t407).bind fun t415 => (if (t415.size : Int) = bt411.1 then (if t407 ≥ 0 then (some (decide (t407 < (ji39)))) else (some false)) else (some false))) else (some false)))) else (some false)) else (some false)) else (some false)) else (some false)) else (some false))) = some r := H
                        have A46 := Aside0.mk A460
                        clear A460
                        replace H := Option.bind_eq_some_iff.mp H
                        obtain ⟨⟨t411, t412⟩, A470, H⟩ := H
                        replace H : (if true = true then (if t405 = (Go.bits .and .i64 a1 (wrap64 ((ji39) - 1))) then (if t406 = 0 then (if t409 = t407 then (if t410 = 0 then ((format_Put.f kj16 a0_0 a0_1 a0_2 a0_3 a0_4 a0_5 a0_6 a0_7 a0_8 a0_9 a1).bind fun t413 => ((format_Size.f a0_0 a0_1 a0_2 a0_3 a0_4 a0_5 a0_6 a0_7 a0_8 a0_9).bind fun t414 => (if (t413.size : Int) = t414 then ((format_CPut.f kj16 a0_0 a0_1 a0_2 a0_3 a0_4 a0_5 a0_6 a0_7 a0_8 a0_9 t407).bind fun t415 => (if (t415.size : Int) = t411 then (if t407 ≥ 0 then (some (decide (t407 < (ji39)))) else (some false)) else (some false))) else (some false)))) else (some false)) else (some false)) else (some false)) else (some false)) else (some false)) = some r := H
                        have A47 := Aside0.mk A470
                        clear A470
                        have H1 : (if t405 = (Go.bits .and .i64 a1 (wrap64 ((ji39) - 1))) then (if t406 = 0 then (if t409 = t407 then (if t410 = 0 then ((format_Put.f kj16 a0_0 a0_1 a0_2 a0_3 a0_4 a0_5 a0_6 a0_7 a0_8 a0_9 a1).bind fun t413 => ((format_Size.f a0_0 a0_1 a0_2 a0_3 a0_4 a0_5 a0_6 a0_7 a0_8 a0_9).bind fun t414 => (if (t413.size : Int) = t414 then ((format_CPut.f kj16 a0_0 a0_1 a0_2 a0_3 a0_4 a0_5 a0_6 a0_7 a0_8 a0_9 t407).bind fun t415 => (if (t415.size : Int) = t411 then (if t407 ≥ 0 then (some (decide (t407 < (ji39)))) else (some false)) else (some false))) else (some false)))) else (some false)) else (some false)) else (some false)) else (some false)) = some r := by (first | rw [if_pos rfl] at H | rw [if_pos trivial] at H); exact H
                        clear H
                        have H := H1
                        clear H1
                        by_cases c48 : t405 = (Go.bits .and .i64 a1 (wrap64 ((ji39) - 1)))
                        · rw [if_pos c48] at H
                          have c48b0 : (t405 == (Go.bits .and .i64 a1 (wrap64 ((ji39) - 1)))) = true := beq_iff_eq.mpr c48
                          have c48b1 : (t405 != (Go.bits .and .i64 a1 (wrap64 ((ji39) - 1)))) = false := bne_eq_false_iff_eq.mpr c48
                          clear c48
                          by_cases c49 : t406 = 0
                          · rw [if_pos c49] at H
                            have c49b0 : (t406 == 0) = true := beq_iff_eq.mpr c49
                            have c49b1 : (t406 != 0) = false := bne_eq_false_iff_eq.mpr c49
                            clear c49
                            by_cases c50 : t409 = t407
                            · rw [if_pos c50] at H
                              have c50b0 : (t409 == t407) = true := beq_iff_eq.mpr c50
                              have c50b1 : (t409 != t407) = false := bne_eq_false_iff_eq.mpr c50
                              clear c50
                              by_cases c51 : t410 = 0
                              · rw [if_pos c51] at H
                                have c51b0 : (t410 == 0) = true := beq_iff_eq.mpr c51
                                have c51b1 : (t410 != 0) = false := bne_eq_false_iff_eq.mpr c51
                                clear c51
                                replace H := Option.bind_eq_some_iff.mp H
                                obtain ⟨t413, A520, H⟩ := H
                                replace H : ((format_Size.f a0_0 a0_1 a0_2 a0_3 a0_4 a0_5 a0_6 a0_7 a0_8 a0_9).bind fun t414 => (if (t413.size : Int) = t414 then ((format_CPut.f kj16 a0_0 a0_1 a0_2 a0_3 a0_4 a0_5 a0_6 a0_7 a0_8 a0_9 t407).bind fun t415 => (if (t415.size : Int) = t411 then (if t407 ≥ 0 then (some (decide (t407 < (ji39)))) else (some false)) else (some false))) else (some false))) = some r := H
                                have A52 := Aside0.mk A520
                                clear A520
                                replace H := Option.bind_eq_some_iff.mp H
                                obtain ⟨t414, A530, H⟩ := H
                                replace H : (if (t413.size : Int) = t414 then ((format_CPut.f kj16 a0_0 a0_1 a0_2 a0_3 a0_4 a0_5 a0_6 a0_7 a0_8 a0_9 t407).bind fun t415 => (if (t415.size : Int) = t411 then (if t407 ≥ 0 then (some (decide (t407 < (ji39)))) else (some false)) else (some false))) else (some false)) = some r := H
                                have A53 := Aside0.mk A530
                                clear A530
                                by_cases c54 : (t413.size : Int) = t414
                                · rw [if_pos c54] at H
                                  have c54b0 : ((t413.size : Int) == t414) = true := beq_iff_eq.mpr c54
                                  have c54b1 : ((t413.size : Int) != t414) = false := bne_eq_false_iff_eq.mpr c54
                                  clear c54
                                  replace H := Option.bind_eq_some_iff.mp H
                                  obtain ⟨t415, A550, H⟩ := H
                                  replace H : (if (t415.size : Int) = t411 then (if t407 ≥ 0 then (some (decide (t407 < (ji39)))) else (some false)) else (some false)) = some r := H
                                  have A55 := Aside0.mk A550
                                  clear A550
                                  by_cases c56 : (t415.size : Int) = t411
                                  · rw [if_pos c56] at H
                                    have c56b0 : ((t415.size : Int) == t411) = true := beq_iff_eq.mpr c56
                                    have c56b1 : ((t415.size : Int) != t411) = false := bne_eq_false_iff_eq.mpr c56
                                    clear c56
                                    by_cases c57 : t407 ≥ 0
                                    · rw [if_pos c57] at H
                                      have c57b0 : decide (0 ≤ t407) = true := decide_eq_true c57
                                      clear c57
                                      have c58b0 := eq_true (of_decide_eq_true (by first | (with_reducible assumption) | assumption) : 0 ≤ a0_0)
                                      obtain rfl := Option.some.inj H
                                      have hnb59 := NB387_402.out
                                      have hnc59 := NB402_387.out
                                      have hcz60_0 : wc.cell? ⟨gb387, 0, none⟩ = some (.int .i64 a0_0) := (blk_cell BK387.out 0).trans rfl
                                      have hcz60_1 : wc.cell? ⟨gb387, 1, none⟩ = some (.int .i64 a0_1) := (blk_cell BK387.out 1).trans rfl
                                      have hcz60_2 : wc.cell? ⟨gb387, 2, none⟩ = some (.bool a0_2) := (blk_cell BK387.out 2).trans rfl
                                      have hcz60_3 : wc.cell? ⟨gb387, 3, none⟩ = some (.bool a0_3) := (blk_cell BK387.out 3).trans rfl
                                      have hcz60_4 : wc.cell? ⟨gb387, 4, none⟩ = some (.int .i64 a0_4) := (blk_cell BK387.out 4).trans rfl
                                      have hcz60_5 : wc.cell? ⟨gb387, 5, none⟩ = some (.int .i64 a0_5) := (blk_cell BK387.out 5).trans rfl
                                      have hcz60_6 : wc.cell? ⟨gb387, 6, none⟩ = some (.int .i64 a0_6) := (blk_cell BK387.out 6).trans rfl
                                      have hcz60_7 : wc.cell? ⟨gb387, 7, none⟩ = some (.int .i64 a0_7) := (blk_cell BK387.out 7).trans rfl
                                      have hcz60_8 : wc.cell? ⟨gb387, 8, none⟩ = some (.int .i64 a0_8) := (blk_cell BK387.out 8).trans rfl
                                      have hcz60_9 : wc.cell? ⟨gb387, 9, none⟩ = some (.int .i64 a0_9) := (blk_cell BK387.out 9).trans rfl
                                      have hfz60_0 := blk_frozen BK387.out 0
                                      have hfz60_1 := blk_frozen BK387.out 1
                                      have hfz60_2 := blk_frozen BK387.out 2
                                      have hfz60_3 := blk_frozen BK387.out 3
                                      have hfz60_4 := blk_frozen BK387.out 4
                                      have hfz60_5 := blk_frozen BK387.out 5
                                      have hfz60_6 := blk_frozen BK387.out 6
                                      have hfz60_7 := blk_frozen BK387.out 7
                                      have hfz60_8 := blk_frozen BK387.out 8
                                      have hfz60_9 := blk_frozen BK387.out 9
                                      try go_wp2
                                      have n0_ := Aside0.mk (blk_drew BK387.out)
                                      have n1_ := Aside0.mk (blk_drew BK402.out)
                                      have n2_ := Aside0.mk (below_drew1 HB.out)
                                      clear BK387
                                      clear BK402
                                      clear HB
                                      have BK387 := n0_
                                      have BK402 := n1_
                                      have HB := n2_
                                      clear n0_ n1_ n2_
                                      refine start_ (n := 12) (S := fun w' => w'.cell? ⟨gb387, 0, none⟩ = some (.int .i64 a0_0) ∧ w'.cell? ⟨gb387, 1, none⟩ = some (.int .i64 a0_1) ∧ w'.cell? ⟨gb387, 2, none⟩ = some (.bool a0_2) ∧ w'.cell? ⟨gb387, 3, none⟩ = some (.bool a0_3) ∧ w'.cell? ⟨gb387, 4, none⟩ = some (.int .i64 a0_4) ∧ w'.cell? ⟨gb387, 5, none⟩ = some (.int .i64 a0_5) ∧ w'.cell? ⟨gb387, 6, none⟩ = some (.int .i64 a0_6) ∧ w'.cell? ⟨gb387, 7, none⟩ = some (.int .i64 a0_7) ∧ w'.cell? ⟨gb387, 8, none⟩ = some (.int .i64 a0_8) ∧ w'.cell? ⟨gb387, 9, none⟩ = some (.int .i64 a0_9)) (ds := []) #[false, false, false, false, false, false, false, false, false, false, false, false] (by kernel_rfl) rfl rfl ⟨(blk_cell BK387.out 0).trans rfl, (blk_cell BK387.out 1).trans rfl, (blk_cell BK387.out 2).trans rfl, (blk_cell BK387.out 3).trans rfl, (blk_cell BK387.out 4).trans rfl, (blk_cell BK387.out 5).trans rfl, (blk_cell BK387.out 6).trans rfl, (blk_cell BK387.out 7).trans rfl, (blk_cell BK387.out 8).trans rfl, (blk_cell BK387.out 9).trans rfl⟩ (fun hHeld => ?_); refine with_tabW miradorlaw13_FormatBack.tab10 miradorlaw13_FormatBack.bits10 (fun HT_ HW_ => ?_)
                                      generalize wc.drew = w61 at BK387 BK402 HB hHeld ⊢
                                      refine pure_ (i := 2) (N := some 60) (v := ?_) (a' := ?_) #[false, false, true, false, false, false, false, false, false, false, false, false] rfl rfl (any_of HT_.out (by kernel_rfl)) (fun _ _ _ h => h) (Or.inl ⟨by rfl, ?_⟩) ?_ ?_
                                      rotate_left
                                      · intro w'
                                        go_simp
                                        with_reducible rfl
                                      rotate_left
                                      · simp only [Act.put, List.setIfInBounds_toArray, List.set_cons_zero, List.set_cons_succ, i64_w, i32_w]
                                        rfl
                                      refine pure_ (i := 4) (N := some 62) (v := ?_) (a' := ?_) #[false, false, true, false, true, false, false, false, false, false, false, false] rfl rfl (any_of HT_.out (by kernel_rfl)) (fun _ _ _ h => h) (Or.inl ⟨by rfl, ?_⟩) ?_ ?_
                                      rotate_left
                                      · intro w'
                                        go_simp
                                        with_reducible rfl
                                      rotate_left
                                      · simp only [Act.put, List.setIfInBounds_toArray, List.set_cons_zero, List.set_cons_succ, i64_w, i32_w]
                                        rfl
                                      refine take_ (i := 0) (N := some 58) (v := ?_) (a' := ?_) #[true, false, true, false, true, false, false, false, false, false, false, false] rfl rfl (take_ofW HT_.out HW_.out (by kernel_rfl)) (fun _ _ _ h => h) (Or.inl ⟨by rfl, ?_⟩) hHeld ?_ ?_
                                      rotate_left
                                      · rintro w' ⟨s0, s1, s2, s3, s4, s5, s6, s7, s8, s9⟩
                                        go_simp
                                        with_reducible rfl
                                      rotate_left
                                      · simp only [Act.put, List.setIfInBounds_toArray, List.set_cons_zero, List.set_cons_succ, i64_w, i32_w]
                                        rfl
                                      refine take_ (i := 1) (N := some 59) (v := ?_) (a' := ?_) #[true, true, true, false, true, false, false, false, false, false, false, false] rfl rfl (take_ofW HT_.out HW_.out (by kernel_rfl)) (fun _ _ _ h => h) (Or.inl ⟨by rfl, ?_⟩) hHeld ?_ ?_
                                      rotate_left
                                      · rintro w' ⟨s0, s1, s2, s3, s4, s5, s6, s7, s8, s9⟩
                                        go_simp
                                        with_reducible rfl
                                      rotate_left
                                      · simp only [Act.put, List.setIfInBounds_toArray, List.set_cons_zero, List.set_cons_succ, i64_w, i32_w]
                                        rfl
                                      refine one_ (i := 3) (N := some 61) #[true, true, true, true, true, false, false, false, false, false, false, false] rfl rfl (one_of HT_.out (by kernel_rfl)) (by decide) (fun K hK => ?_)
                                      refine goes_ Try.func24 (by kernel_rfl) rfl #[.agg #[.int .i64 a0_0, .int .i64 a0_1, .bool a0_2, .bool a0_3, .int .i64 a0_4, .int .i64 a0_5, .int .i64 a0_6, .int .i64 a0_7, .int .i64 a0_8, .int .i64 a0_9], .int .i64 a1] (by rfl) rfl rfl (by (try simp only [List.map_toArray, List.map_cons, List.map_nil]); first | done | rfl | (simp only [List.length_drop, List.length_take]; rfl)) ?_
                                      with_reducible refine (format_Put.calls kj16 a0_0 a0_1 a0_2 a0_3 a0_4 a0_5 a0_6 a0_7 a0_8 a0_9 a1 t404 _ A40.out).mono ?_
                                      rintro e w62 ⟨rfl, hb⟩
                                      refine ⟨_, rfl, ?_⟩
                                      have n0_ := Aside0.mk (blk_below (g := gb387) (o := .cells #[.int .i64 a0_0, .int .i64 a0_1, .bool a0_2, .bool a0_3, .int .i64 a0_4, .int .i64 a0_5, .int .i64 a0_6, .int .i64 a0_7, .int .i64 a0_8, .int .i64 a0_9] 23 (0, 0)) (by (with_reducible repeat (first | refine blk_drewN ?_ _ | refine blk_drew ?_ | refine blk_alloc ?_ _)); exact BK387.out) hb)
                                      have n1_ := Aside0.mk (blk_below (g := gb402) (o := .cells #[.int .i64 t391, .int .i64 t392, .bool t393, .bool t394, .int .i64 t395, .int .i64 t396, .int .i64 t397, .int .i64 t398, .int .i64 t399, .int .i64 t400] 23 (0, 0)) (by (with_reducible repeat (first | refine blk_drewN ?_ _ | refine blk_drew ?_ | refine blk_alloc ?_ _)); exact BK402.out) hb)
                                      have n2_ := Aside0.mk (below_step (by repeat (first | (with_reducible first | exact HB.out | apply below_alloc | apply pw_below_drewN | apply below_drew1 | refine below_set ?_ GE387.out | refine below_set ?_ GE402.out) | exact HB.out)) hb)
                                      clear BK387
                                      clear BK402
                                      clear HB
                                      have BK387 := n0_
                                      have BK402 := n1_
                                      have HB := n2_
                                      clear n0_ n1_ n2_
                                      (try clear hb)
                                      (try clear hb2)
                                      (try clear hk)
                                      (try clear hi)
                                      refine hK.out _ _ ⟨(blk_cell BK387.out 0).trans rfl, (blk_cell BK387.out 1).trans rfl, (blk_cell BK387.out 2).trans rfl, (blk_cell BK387.out 3).trans rfl, (blk_cell BK387.out 4).trans rfl, (blk_cell BK387.out 5).trans rfl, (blk_cell BK387.out 6).trans rfl, (blk_cell BK387.out 7).trans rfl, (blk_cell BK387.out 8).trans rfl, (blk_cell BK387.out 9).trans rfl⟩ (fun hHeld => ?_)
                                      clear hK K
                                      refine norm_ (a' := ?_) ?_ ?_
                                      rotate_left
                                      · show Act.put _ (some 61) _ = _
                                        simp only [Act.put, List.setIfInBounds_toArray, List.set_cons_zero, List.set_cons_succ, i64_w, i32_w]
                                        rfl
                                      refine pure_ (i := 5) (N := some 63) (v := ?_) (a' := ?_) #[true, true, true, true, true, true, false, false, false, false, false, false] rfl rfl (any_of HT_.out (by kernel_rfl)) (fun _ _ _ h => h) (Or.inl ⟨by rfl, ?_⟩) ?_ ?_
                                      rotate_left
                                      · intro w'
                                        go_simp
                                        with_reducible rfl
                                      rotate_left
                                      · simp only [Act.put, List.setIfInBounds_toArray, List.set_cons_zero, List.set_cons_succ, i64_w, i32_w]
                                        rfl
                                      refine one_ (i := 6) (N := some 64) #[true, true, true, true, true, true, true, false, false, false, false, false] rfl rfl (one_of HT_.out (by kernel_rfl)) (by decide) (fun K hK => ?_)
                                      refine goes_ Try.func27 (by kernel_rfl) rfl #[.agg #[.int .i64 a0_0, .int .i64 a0_1, .bool a0_2, .bool a0_3, .int .i64 a0_4, .int .i64 a0_5, .int .i64 a0_6, .int .i64 a0_7, .int .i64 a0_8, .int .i64 a0_9], .string (t404 ++ a2)] (by rfl) rfl rfl (by (try simp only [List.map_toArray, List.map_cons, List.map_nil]); first | done | rfl | (simp only [List.length_drop, List.length_take]; rfl)) ?_
                                      with_reducible refine (format_Get.calls kj16 a0_0 a0_1 a0_2 a0_3 a0_4 a0_5 a0_6 a0_7 a0_8 a0_9 (t404 ++ a2) t405 t406 _ A42.out).mono ?_
                                      rintro e w63 ⟨rfl, hb⟩
                                      refine ⟨_, rfl, ?_⟩
                                      have n0_ := Aside0.mk (blk_below (g := gb387) (o := .cells #[.int .i64 a0_0, .int .i64 a0_1, .bool a0_2, .bool a0_3, .int .i64 a0_4, .int .i64 a0_5, .int .i64 a0_6, .int .i64 a0_7, .int .i64 a0_8, .int .i64 a0_9] 23 (0, 0)) (by (with_reducible repeat (first | refine blk_drewN ?_ _ | refine blk_drew ?_ | refine blk_alloc ?_ _)); exact BK387.out) hb)
                                      have n1_ := Aside0.mk (blk_below (g := gb402) (o := .cells #[.int .i64 t391, .int .i64 t392, .bool t393, .bool t394, .int .i64 t395, .int .i64 t396, .int .i64 t397, .int .i64 t398, .int .i64 t399, .int .i64 t400] 23 (0, 0)) (by (with_reducible repeat (first | refine blk_drewN ?_ _ | refine blk_drew ?_ | refine blk_alloc ?_ _)); exact BK402.out) hb)
                                      have n2_ := Aside0.mk (below_step (by repeat (first | (with_reducible first | exact HB.out | apply below_alloc | apply pw_below_drewN | apply below_drew1 | refine below_set ?_ GE387.out | refine below_set ?_ GE402.out) | exact HB.out)) hb)
                                      clear BK387
                                      clear BK402
                                      clear HB
                                      have BK387 := n0_
                                      have BK402 := n1_
                                      have HB := n2_
                                      clear n0_ n1_ n2_
                                      (try clear hb)
                                      (try clear hb2)
                                      (try clear hk)
                                      (try clear hi)
                                      refine hK.out _ _ ⟨(blk_cell BK387.out 0).trans rfl, (blk_cell BK387.out 1).trans rfl, (blk_cell BK387.out 2).trans rfl, (blk_cell BK387.out 3).trans rfl, (blk_cell BK387.out 4).trans rfl, (blk_cell BK387.out 5).trans rfl, (blk_cell BK387.out 6).trans rfl, (blk_cell BK387.out 7).trans rfl, (blk_cell BK387.out 8).trans rfl, (blk_cell BK387.out 9).trans rfl⟩ (fun hHeld => ?_)
                                      clear hK K
                                      refine norm_ (a' := ?_) ?_ ?_
                                      rotate_left
                                      · show Act.put _ (some 64) _ = _
                                        simp only [Act.put, List.setIfInBounds_toArray, List.set_cons_zero, List.set_cons_succ, i64_w, i32_w]
                                        rfl
                                      refine pure_ (i := 7) (N := some 57) (v := ?_) (a' := ?_) #[true, true, true, true, true, true, true, true, false, false, false, false] rfl rfl (any_of HT_.out (by kernel_rfl)) (fun _ _ _ h => h) (Or.inl ⟨by rfl, ?_⟩) ?_ ?_
                                      rotate_left
                                      · intro w'
                                        go_simp
                                        with_reducible rfl
                                      rotate_left
                                      · simp only [Act.put, List.setIfInBounds_toArray, List.set_cons_zero, List.set_cons_succ, i64_w, i32_w]
                                        rfl
                                      refine pure_ (i := 8) (N := some 65) (v := ?_) (a' := ?_) #[true, true, true, true, true, true, true, true, true, false, false, false] rfl rfl (any_of HT_.out (by kernel_rfl)) (fun _ _ _ h => h) (Or.inl ⟨by rfl, ?_⟩) ?_ ?_
                                      rotate_left
                                      · intro w'
                                        go_simp
                                        with_reducible rfl
                                      rotate_left
                                      · simp only [Act.put, List.setIfInBounds_toArray, List.set_cons_zero, List.set_cons_succ, i64_w, i32_w]
                                        rfl
                                      refine pure_ (i := 9) (N := some 66) (v := ?_) (a' := ?_) #[true, true, true, true, true, true, true, true, true, true, false, false] rfl rfl (any_of HT_.out (by kernel_rfl)) (fun _ _ _ h => h) (Or.inl ⟨by rfl, ?_⟩) ?_ ?_
                                      rotate_left
                                      · intro w'
                                        go_simp
                                        with_reducible rfl
                                      rotate_left
                                      · simp only [Act.put, List.setIfInBounds_toArray, List.set_cons_zero, List.set_cons_succ, i64_w, i32_w]
                                        rfl
                                      refine pure_ (i := 10) (N := some 11) (v := ?_) (a' := ?_) #[true, true, true, true, true, true, true, true, true, true, true, false] rfl rfl (any_of HT_.out (by kernel_rfl)) (fun _ _ _ h => h) (Or.inl ⟨by rfl, ?_⟩) ?_ ?_
                                      rotate_left
                                      · intro w'
                                        go_simp
                                        with_reducible rfl
                                      rotate_left
                                      · simp only [Act.put, List.setIfInBounds_toArray, List.set_cons_zero, List.set_cons_succ, i64_w, i32_w]
                                        rfl
                                      refine pure_ (i := 11) (N := some 12) (v := ?_) (a' := ?_) #[true, true, true, true, true, true, true, true, true, true, true, true] rfl rfl (any_of HT_.out (by kernel_rfl)) (fun _ _ _ h => h) (Or.inl ⟨by rfl, ?_⟩) ?_ ?_
                                      rotate_left
                                      · intro w'
                                        go_simp
                                        with_reducible rfl
                                      rotate_left
                                      · simp only [Act.put, List.setIfInBounds_toArray, List.set_cons_zero, List.set_cons_succ, i64_w, i32_w]
                                        rfl
                                      refine done_ (done_of HT_.out (by kernel_rfl)) ?_
                                      have hcz64_0 : w63.cell? ⟨gb387, 0, none⟩ = some (.int .i64 a0_0) := (blk_cell BK387.out 0).trans rfl
                                      have hcz64_1 : w63.cell? ⟨gb387, 1, none⟩ = some (.int .i64 a0_1) := (blk_cell BK387.out 1).trans rfl
                                      have hcz64_2 : w63.cell? ⟨gb387, 2, none⟩ = some (.bool a0_2) := (blk_cell BK387.out 2).trans rfl
                                      have hcz64_3 : w63.cell? ⟨gb387, 3, none⟩ = some (.bool a0_3) := (blk_cell BK387.out 3).trans rfl
                                      have hcz64_4 : w63.cell? ⟨gb387, 4, none⟩ = some (.int .i64 a0_4) := (blk_cell BK387.out 4).trans rfl
                                      have hcz64_5 : w63.cell? ⟨gb387, 5, none⟩ = some (.int .i64 a0_5) := (blk_cell BK387.out 5).trans rfl
                                      have hcz64_6 : w63.cell? ⟨gb387, 6, none⟩ = some (.int .i64 a0_6) := (blk_cell BK387.out 6).trans rfl
                                      have hcz64_7 : w63.cell? ⟨gb387, 7, none⟩ = some (.int .i64 a0_7) := (blk_cell BK387.out 7).trans rfl
                                      have hcz64_8 : w63.cell? ⟨gb387, 8, none⟩ = some (.int .i64 a0_8) := (blk_cell BK387.out 8).trans rfl
                                      have hcz64_9 : w63.cell? ⟨gb387, 9, none⟩ = some (.int .i64 a0_9) := (blk_cell BK387.out 9).trans rfl
                                      have hfz64_0 := blk_frozen BK387.out 0
                                      have hfz64_1 := blk_frozen BK387.out 1
                                      have hfz64_2 := blk_frozen BK387.out 2
                                      have hfz64_3 := blk_frozen BK387.out 3
                                      have hfz64_4 := blk_frozen BK387.out 4
                                      have hfz64_5 := blk_frozen BK387.out 5
                                      have hfz64_6 := blk_frozen BK387.out 6
                                      have hfz64_7 := blk_frozen BK387.out 7
                                      have hfz64_8 := blk_frozen BK387.out 8
                                      have hfz64_9 := blk_frozen BK387.out 9
                                      try go_wp2_with (first | ((with_reducible refine gate_callee (f := 19) rfl ?_); refine goesL_ (some 69) rfl rfl Try.func19 (by kernel_rfl) rfl #[.agg #[.int .i64 a0_0, .int .i64 a0_1, .bool a0_2, .bool a0_3, .int .i64 a0_4, .int .i64 a0_5, .int .i64 a0_6, .int .i64 a0_7, .int .i64 a0_8, .int .i64 a0_9], .int .i64 a1] rfl (by (try simp only [List.map_toArray, List.map_cons, List.map_nil]); first | done | rfl | (simp only [List.length_drop, List.length_take]; rfl)) ?_; (with_reducible refine (format_Value.calls a0_0 a0_1 a0_2 a0_3 a0_4 a0_5 a0_6 a0_7 a0_8 a0_9 a1 t407 _ A43.out).mono ?_); rintro e w65 ⟨rfl, hb⟩; refine ⟨_, rfl, ?_⟩; have n0_ := Aside0.mk (blk_below (g := gb387) (o := .cells #[.int .i64 a0_0, .int .i64 a0_1, .bool a0_2, .bool a0_3, .int .i64 a0_4, .int .i64 a0_5, .int .i64 a0_6, .int .i64 a0_7, .int .i64 a0_8, .int .i64 a0_9] 23 (0, 0)) (by (with_reducible repeat (first | refine blk_drewN ?_ _ | refine blk_drew ?_ | refine blk_alloc ?_ _)); exact BK387.out) hb); have n1_ := Aside0.mk (blk_below (g := gb402) (o := .cells #[.int .i64 t391, .int .i64 t392, .bool t393, .bool t394, .int .i64 t395, .int .i64 t396, .int .i64 t397, .int .i64 t398, .int .i64 t399, .int .i64 t400] 23 (0, 0)) (by (with_reducible repeat (first | refine blk_drewN ?_ _ | refine blk_drew ?_ | refine blk_alloc ?_ _)); exact BK402.out) hb); have n2_ := Aside0.mk (below_step (by repeat (first | (with_reducible first | exact HB.out | apply below_alloc | apply pw_below_drewN | apply below_drew1 | refine below_set ?_ GE387.out | refine below_set ?_ GE402.out) | exact HB.out)) hb); clear BK387; clear BK402; clear HB; have BK387 := n0_; have BK402 := n1_; have HB := n2_; clear n0_ n1_ n2_; (try clear hb); (try clear hb2); (try clear hk); (try clear hi)))
                                      have n0_ := Aside0.mk (blk_drew BK387.out)
                                      have n1_ := Aside0.mk (blk_drew BK402.out)
                                      have n2_ := Aside0.mk (below_drew1 HB.out)
                                      clear BK387
                                      clear BK402
                                      clear HB
                                      have BK387 := n0_
                                      have BK402 := n1_
                                      have HB := n2_
                                      clear n0_ n1_ n2_
                                      refine start_ (n := 12) (S := fun w' => w'.cell? ⟨gb387, 0, none⟩ = some (.int .i64 a0_0) ∧ w'.cell? ⟨gb387, 1, none⟩ = some (.int .i64 a0_1) ∧ w'.cell? ⟨gb387, 2, none⟩ = some (.bool a0_2) ∧ w'.cell? ⟨gb387, 3, none⟩ = some (.bool a0_3) ∧ w'.cell? ⟨gb387, 4, none⟩ = some (.int .i64 a0_4) ∧ w'.cell? ⟨gb387, 5, none⟩ = some (.int .i64 a0_5) ∧ w'.cell? ⟨gb387, 6, none⟩ = some (.int .i64 a0_6) ∧ w'.cell? ⟨gb387, 7, none⟩ = some (.int .i64 a0_7) ∧ w'.cell? ⟨gb387, 8, none⟩ = some (.int .i64 a0_8) ∧ w'.cell? ⟨gb387, 9, none⟩ = some (.int .i64 a0_9)) (ds := []) #[false, false, false, false, false, false, false, false, false, false, false, false] (by kernel_rfl) rfl rfl ⟨(blk_cell BK387.out 0).trans rfl, (blk_cell BK387.out 1).trans rfl, (blk_cell BK387.out 2).trans rfl, (blk_cell BK387.out 3).trans rfl, (blk_cell BK387.out 4).trans rfl, (blk_cell BK387.out 5).trans rfl, (blk_cell BK387.out 6).trans rfl, (blk_cell BK387.out 7).trans rfl, (blk_cell BK387.out 8).trans rfl, (blk_cell BK387.out 9).trans rfl⟩ (fun hHeld => ?_); refine with_tabW miradorlaw13_FormatBack.tab12 miradorlaw13_FormatBack.bits12 (fun HT_ HW_ => ?_)
                                      generalize w65.drew = w66 at BK387 BK402 HB hHeld ⊢
                                      refine pure_ (i := 2) (N := some 73) (v := ?_) (a' := ?_) #[false, false, true, false, false, false, false, false, false, false, false, false] rfl rfl (any_of HT_.out (by kernel_rfl)) (fun _ _ _ h => h) (Or.inl ⟨by rfl, ?_⟩) ?_ ?_
                                      rotate_left
                                      · intro w'
                                        go_simp
                                        with_reducible rfl
                                      rotate_left
                                      · simp only [Act.put, List.setIfInBounds_toArray, List.set_cons_zero, List.set_cons_succ, i64_w, i32_w]
                                        rfl
                                      refine pure_ (i := 4) (N := some 75) (v := ?_) (a' := ?_) #[false, false, true, false, true, false, false, false, false, false, false, false] rfl rfl (any_of HT_.out (by kernel_rfl)) (fun _ _ _ h => h) (Or.inl ⟨by rfl, ?_⟩) ?_ ?_
                                      rotate_left
                                      · intro w'
                                        go_simp
                                        with_reducible rfl
                                      rotate_left
                                      · simp only [Act.put, List.setIfInBounds_toArray, List.set_cons_zero, List.set_cons_succ, i64_w, i32_w]
                                        rfl
                                      refine take_ (i := 0) (N := some 71) (v := ?_) (a' := ?_) #[true, false, true, false, true, false, false, false, false, false, false, false] rfl rfl (take_ofW HT_.out HW_.out (by kernel_rfl)) (fun _ _ _ h => h) (Or.inl ⟨by rfl, ?_⟩) hHeld ?_ ?_
                                      rotate_left
                                      · rintro w' ⟨s0, s1, s2, s3, s4, s5, s6, s7, s8, s9⟩
                                        go_simp
                                        with_reducible rfl
                                      rotate_left
                                      · simp only [Act.put, List.setIfInBounds_toArray, List.set_cons_zero, List.set_cons_succ, i64_w, i32_w]
                                        rfl
                                      refine take_ (i := 1) (N := some 72) (v := ?_) (a' := ?_) #[true, true, true, false, true, false, false, false, false, false, false, false] rfl rfl (take_ofW HT_.out HW_.out (by kernel_rfl)) (fun _ _ _ h => h) (Or.inl ⟨by rfl, ?_⟩) hHeld ?_ ?_
                                      rotate_left
                                      · rintro w' ⟨s0, s1, s2, s3, s4, s5, s6, s7, s8, s9⟩
                                        go_simp
                                        with_reducible rfl
                                      rotate_left
                                      · simp only [Act.put, List.setIfInBounds_toArray, List.set_cons_zero, List.set_cons_succ, i64_w, i32_w]
                                        rfl
                                      refine one_ (i := 3) (N := some 74) #[true, true, true, true, true, false, false, false, false, false, false, false] rfl rfl (one_of HT_.out (by kernel_rfl)) (by decide) (fun K hK => ?_)
                                      refine goes_ Try.func25 (by kernel_rfl) rfl #[.agg #[.int .i64 a0_0, .int .i64 a0_1, .bool a0_2, .bool a0_3, .int .i64 a0_4, .int .i64 a0_5, .int .i64 a0_6, .int .i64 a0_7, .int .i64 a0_8, .int .i64 a0_9], .int .i64 t407] (by rfl) rfl rfl (by (try simp only [List.map_toArray, List.map_cons, List.map_nil]); first | done | rfl | (simp only [List.length_drop, List.length_take]; rfl)) ?_
                                      with_reducible refine (format_CPut.calls kj16 a0_0 a0_1 a0_2 a0_3 a0_4 a0_5 a0_6 a0_7 a0_8 a0_9 t407 t408 _ A44.out).mono ?_
                                      rintro e w67 ⟨rfl, hb⟩
                                      refine ⟨_, rfl, ?_⟩
                                      have n0_ := Aside0.mk (blk_below (g := gb387) (o := .cells #[.int .i64 a0_0, .int .i64 a0_1, .bool a0_2, .bool a0_3, .int .i64 a0_4, .int .i64 a0_5, .int .i64 a0_6, .int .i64 a0_7, .int .i64 a0_8, .int .i64 a0_9] 23 (0, 0)) (by (with_reducible repeat (first | refine blk_drewN ?_ _ | refine blk_drew ?_ | refine blk_alloc ?_ _)); exact BK387.out) hb)
                                      have n1_ := Aside0.mk (blk_below (g := gb402) (o := .cells #[.int .i64 t391, .int .i64 t392, .bool t393, .bool t394, .int .i64 t395, .int .i64 t396, .int .i64 t397, .int .i64 t398, .int .i64 t399, .int .i64 t400] 23 (0, 0)) (by (with_reducible repeat (first | refine blk_drewN ?_ _ | refine blk_drew ?_ | refine blk_alloc ?_ _)); exact BK402.out) hb)
                                      have n2_ := Aside0.mk (below_step (by repeat (first | (with_reducible first | exact HB.out | apply below_alloc | apply pw_below_drewN | apply below_drew1 | refine below_set ?_ GE387.out | refine below_set ?_ GE402.out) | exact HB.out)) hb)
                                      clear BK387
                                      clear BK402
                                      clear HB
                                      have BK387 := n0_
                                      have BK402 := n1_
                                      have HB := n2_
                                      clear n0_ n1_ n2_
                                      (try clear hb)
                                      (try clear hb2)
                                      (try clear hk)
                                      (try clear hi)
                                      refine hK.out _ _ ⟨(blk_cell BK387.out 0).trans rfl, (blk_cell BK387.out 1).trans rfl, (blk_cell BK387.out 2).trans rfl, (blk_cell BK387.out 3).trans rfl, (blk_cell BK387.out 4).trans rfl, (blk_cell BK387.out 5).trans rfl, (blk_cell BK387.out 6).trans rfl, (blk_cell BK387.out 7).trans rfl, (blk_cell BK387.out 8).trans rfl, (blk_cell BK387.out 9).trans rfl⟩ (fun hHeld => ?_)
                                      clear hK K
                                      refine norm_ (a' := ?_) ?_ ?_
                                      rotate_left
                                      · show Act.put _ (some 74) _ = _
                                        simp only [Act.put, List.setIfInBounds_toArray, List.set_cons_zero, List.set_cons_succ, i64_w, i32_w]
                                        rfl
                                      refine pure_ (i := 5) (N := some 76) (v := ?_) (a' := ?_) #[true, true, true, true, true, true, false, false, false, false, false, false] rfl rfl (any_of HT_.out (by kernel_rfl)) (fun _ _ _ h => h) (Or.inl ⟨by rfl, ?_⟩) ?_ ?_
                                      rotate_left
                                      · intro w'
                                        go_simp
                                        with_reducible rfl
                                      rotate_left
                                      · simp only [Act.put, List.setIfInBounds_toArray, List.set_cons_zero, List.set_cons_succ, i64_w, i32_w]
                                        rfl
                                      refine one_ (i := 6) (N := some 77) #[true, true, true, true, true, true, true, false, false, false, false, false] rfl rfl (one_of HT_.out (by kernel_rfl)) (by decide) (fun K hK => ?_)
                                      refine goes_ Try.func28 (by kernel_rfl) rfl #[.agg #[.int .i64 a0_0, .int .i64 a0_1, .bool a0_2, .bool a0_3, .int .i64 a0_4, .int .i64 a0_5, .int .i64 a0_6, .int .i64 a0_7, .int .i64 a0_8, .int .i64 a0_9], .string (t408 ++ a2)] (by rfl) rfl rfl (by (try simp only [List.map_toArray, List.map_cons, List.map_nil]); first | done | rfl | (simp only [List.length_drop, List.length_take]; rfl)) ?_
                                      with_reducible refine (format_CGet.calls kj16 a0_0 a0_1 a0_2 a0_3 a0_4 a0_5 a0_6 a0_7 a0_8 a0_9 (t408 ++ a2) t409 t410 _ A46.out).mono ?_
                                      rintro e w68 ⟨rfl, hb⟩
                                      refine ⟨_, rfl, ?_⟩
                                      have n0_ := Aside0.mk (blk_below (g := gb387) (o := .cells #[.int .i64 a0_0, .int .i64 a0_1, .bool a0_2, .bool a0_3, .int .i64 a0_4, .int .i64 a0_5, .int .i64 a0_6, .int .i64 a0_7, .int .i64 a0_8, .int .i64 a0_9] 23 (0, 0)) (by (with_reducible repeat (first | refine blk_drewN ?_ _ | refine blk_drew ?_ | refine blk_alloc ?_ _)); exact BK387.out) hb)
                                      have n1_ := Aside0.mk (blk_below (g := gb402) (o := .cells #[.int .i64 t391, .int .i64 t392, .bool t393, .bool t394, .int .i64 t395, .int .i64 t396, .int .i64 t397, .int .i64 t398, .int .i64 t399, .int .i64 t400] 23 (0, 0)) (by (with_reducible repeat (first | refine blk_drewN ?_ _ | refine blk_drew ?_ | refine blk_alloc ?_ _)); exact BK402.out) hb)
                                      have n2_ := Aside0.mk (below_step (by repeat (first | (with_reducible first | exact HB.out | apply below_alloc | apply pw_below_drewN | apply below_drew1 | refine below_set ?_ GE387.out | refine below_set ?_ GE402.out) | exact HB.out)) hb)
                                      clear BK387
                                      clear BK402
                                      clear HB
                                      have BK387 := n0_
                                      have BK402 := n1_
                                      have HB := n2_
                                      clear n0_ n1_ n2_
                                      (try clear hb)
                                      (try clear hb2)
                                      (try clear hk)
                                      (try clear hi)
                                      refine hK.out _ _ ⟨(blk_cell BK387.out 0).trans rfl, (blk_cell BK387.out 1).trans rfl, (blk_cell BK387.out 2).trans rfl, (blk_cell BK387.out 3).trans rfl, (blk_cell BK387.out 4).trans rfl, (blk_cell BK387.out 5).trans rfl, (blk_cell BK387.out 6).trans rfl, (blk_cell BK387.out 7).trans rfl, (blk_cell BK387.out 8).trans rfl, (blk_cell BK387.out 9).trans rfl⟩ (fun hHeld => ?_)
                                      clear hK K
                                      refine norm_ (a' := ?_) ?_ ?_
                                      rotate_left
                                      · show Act.put _ (some 77) _ = _
                                        simp only [Act.put, List.setIfInBounds_toArray, List.set_cons_zero, List.set_cons_succ, i64_w, i32_w]
                                        rfl
                                      refine pure_ (i := 7) (N := some 70) (v := ?_) (a' := ?_) #[true, true, true, true, true, true, true, true, false, false, false, false] rfl rfl (any_of HT_.out (by kernel_rfl)) (fun _ _ _ h => h) (Or.inl ⟨by rfl, ?_⟩) ?_ ?_
                                      rotate_left
                                      · intro w'
                                        go_simp
                                        with_reducible rfl
                                      rotate_left
                                      · simp only [Act.put, List.setIfInBounds_toArray, List.set_cons_zero, List.set_cons_succ, i64_w, i32_w]
                                        rfl
                                      refine pure_ (i := 8) (N := some 78) (v := ?_) (a' := ?_) #[true, true, true, true, true, true, true, true, true, false, false, false] rfl rfl (any_of HT_.out (by kernel_rfl)) (fun _ _ _ h => h) (Or.inl ⟨by rfl, ?_⟩) ?_ ?_
                                      rotate_left
                                      · intro w'
                                        go_simp
                                        with_reducible rfl
                                      rotate_left
                                      · simp only [Act.put, List.setIfInBounds_toArray, List.set_cons_zero, List.set_cons_succ, i64_w, i32_w]
                                        rfl
                                      refine pure_ (i := 9) (N := some 79) (v := ?_) (a' := ?_) #[true, true, true, true, true, true, true, true, true, true, false, false] rfl rfl (any_of HT_.out (by kernel_rfl)) (fun _ _ _ h => h) (Or.inl ⟨by rfl, ?_⟩) ?_ ?_
                                      rotate_left
                                      · intro w'
                                        go_simp
                                        with_reducible rfl
                                      rotate_left
                                      · simp only [Act.put, List.setIfInBounds_toArray, List.set_cons_zero, List.set_cons_succ, i64_w, i32_w]
                                        rfl
                                      refine pure_ (i := 10) (N := some 14) (v := ?_) (a' := ?_) #[true, true, true, true, true, true, true, true, true, true, true, false] rfl rfl (any_of HT_.out (by kernel_rfl)) (fun _ _ _ h => h) (Or.inl ⟨by rfl, ?_⟩) ?_ ?_
                                      rotate_left
                                      · intro w'
                                        go_simp
                                        with_reducible rfl
                                      rotate_left
                                      · simp only [Act.put, List.setIfInBounds_toArray, List.set_cons_zero, List.set_cons_succ, i64_w, i32_w]
                                        rfl
                                      refine pure_ (i := 11) (N := some 15) (v := ?_) (a' := ?_) #[true, true, true, true, true, true, true, true, true, true, true, true] rfl rfl (any_of HT_.out (by kernel_rfl)) (fun _ _ _ h => h) (Or.inl ⟨by rfl, ?_⟩) ?_ ?_
                                      rotate_left
                                      · intro w'
                                        go_simp
                                        with_reducible rfl
                                      rotate_left
                                      · simp only [Act.put, List.setIfInBounds_toArray, List.set_cons_zero, List.set_cons_succ, i64_w, i32_w]
                                        rfl
                                      refine done_ (done_of HT_.out (by kernel_rfl)) ?_
                                      have hcz69_0 : w68.cell? ⟨gb387, 0, none⟩ = some (.int .i64 a0_0) := (blk_cell BK387.out 0).trans rfl
                                      have hcz69_1 : w68.cell? ⟨gb387, 1, none⟩ = some (.int .i64 a0_1) := (blk_cell BK387.out 1).trans rfl
                                      have hcz69_2 : w68.cell? ⟨gb387, 2, none⟩ = some (.bool a0_2) := (blk_cell BK387.out 2).trans rfl
                                      have hcz69_3 : w68.cell? ⟨gb387, 3, none⟩ = some (.bool a0_3) := (blk_cell BK387.out 3).trans rfl
                                      have hcz69_4 : w68.cell? ⟨gb387, 4, none⟩ = some (.int .i64 a0_4) := (blk_cell BK387.out 4).trans rfl
                                      have hcz69_5 : w68.cell? ⟨gb387, 5, none⟩ = some (.int .i64 a0_5) := (blk_cell BK387.out 5).trans rfl
                                      have hcz69_6 : w68.cell? ⟨gb387, 6, none⟩ = some (.int .i64 a0_6) := (blk_cell BK387.out 6).trans rfl
                                      have hcz69_7 : w68.cell? ⟨gb387, 7, none⟩ = some (.int .i64 a0_7) := (blk_cell BK387.out 7).trans rfl
                                      have hcz69_8 : w68.cell? ⟨gb387, 8, none⟩ = some (.int .i64 a0_8) := (blk_cell BK387.out 8).trans rfl
                                      have hcz69_9 : w68.cell? ⟨gb387, 9, none⟩ = some (.int .i64 a0_9) := (blk_cell BK387.out 9).trans rfl
                                      have hfz69_0 := blk_frozen BK387.out 0
                                      have hfz69_1 := blk_frozen BK387.out 1
                                      have hfz69_2 := blk_frozen BK387.out 2
                                      have hfz69_3 := blk_frozen BK387.out 3
                                      have hfz69_4 := blk_frozen BK387.out 4
                                      have hfz69_5 := blk_frozen BK387.out 5
                                      have hfz69_6 := blk_frozen BK387.out 6
                                      have hfz69_7 := blk_frozen BK387.out 7
                                      have hfz69_8 := blk_frozen BK387.out 8
                                      have hfz69_9 := blk_frozen BK387.out 9
                                      try go_wp2_with (first | ((with_reducible refine gate_callee (f := 29) rfl ?_); refine goesL_ (some 82) rfl rfl Try.func29 (by kernel_rfl) rfl #[.agg #[.int .i64 a0_0, .int .i64 a0_1, .bool a0_2, .bool a0_3, .int .i64 a0_4, .int .i64 a0_5, .int .i64 a0_6, .int .i64 a0_7, .int .i64 a0_8, .int .i64 a0_9]] rfl (by (try simp only [List.map_toArray, List.map_cons, List.map_nil]); first | done | rfl | (simp only [List.length_drop, List.length_take]; rfl)) ?_; (with_reducible refine (format_Compact.calls a0_0 a0_1 a0_2 a0_3 a0_4 a0_5 a0_6 a0_7 a0_8 a0_9 t411 t412 _ A47.out).mono ?_); rintro e w70 ⟨rfl, hb⟩; refine ⟨_, rfl, ?_⟩; have n0_ := Aside0.mk (blk_below (g := gb387) (o := .cells #[.int .i64 a0_0, .int .i64 a0_1, .bool a0_2, .bool a0_3, .int .i64 a0_4, .int .i64 a0_5, .int .i64 a0_6, .int .i64 a0_7, .int .i64 a0_8, .int .i64 a0_9] 23 (0, 0)) (by (with_reducible repeat (first | refine blk_drewN ?_ _ | refine blk_drew ?_ | refine blk_alloc ?_ _)); exact BK387.out) hb); have n1_ := Aside0.mk (blk_below (g := gb402) (o := .cells #[.int .i64 t391, .int .i64 t392, .bool t393, .bool t394, .int .i64 t395, .int .i64 t396, .int .i64 t397, .int .i64 t398, .int .i64 t399, .int .i64 t400] 23 (0, 0)) (by (with_reducible repeat (first | refine blk_drewN ?_ _ | refine blk_drew ?_ | refine blk_alloc ?_ _)); exact BK402.out) hb); have n2_ := Aside0.mk (below_step (by repeat (first | (with_reducible first | exact HB.out | apply below_alloc | apply pw_below_drewN | apply below_drew1 | refine below_set ?_ GE387.out | refine below_set ?_ GE402.out) | exact HB.out)) hb); clear BK387; clear BK402; clear HB; have BK387 := n0_; have BK402 := n1_; have HB := n2_; clear n0_ n1_ n2_; (try clear hb); (try clear hb2); (try clear hk); (try clear hi)))
                                      have n0_ := Aside0.mk (blk_drew BK387.out)
                                      have n1_ := Aside0.mk (blk_drew BK402.out)
                                      have n2_ := Aside0.mk (below_drew1 HB.out)
                                      clear BK387
                                      clear BK402
                                      clear HB
                                      have BK387 := n0_
                                      have BK402 := n1_
                                      have HB := n2_
                                      clear n0_ n1_ n2_
                                      refine start_ (n := 48) (S := fun w' => w'.cell? ⟨gb387, 0, none⟩ = some (.int .i64 a0_0) ∧ w'.cell? ⟨gb387, 1, none⟩ = some (.int .i64 a0_1) ∧ w'.cell? ⟨gb387, 2, none⟩ = some (.bool a0_2) ∧ w'.cell? ⟨gb387, 3, none⟩ = some (.bool a0_3) ∧ w'.cell? ⟨gb387, 4, none⟩ = some (.int .i64 a0_4) ∧ w'.cell? ⟨gb387, 5, none⟩ = some (.int .i64 a0_5) ∧ w'.cell? ⟨gb387, 6, none⟩ = some (.int .i64 a0_6) ∧ w'.cell? ⟨gb387, 7, none⟩ = some (.int .i64 a0_7) ∧ w'.cell? ⟨gb387, 8, none⟩ = some (.int .i64 a0_8) ∧ w'.cell? ⟨gb387, 9, none⟩ = some (.int .i64 a0_9)) (ds := []) #[false, false, false, false, false, false, false, false, false, false, false, false, false, false, false, false, false, false, false, false, false, false, false, false, false, false, false, false, false, false, false, false, false, false, false, false, false, false, false, false, false, false, false, false, false, false, false, false] (by kernel_rfl) rfl rfl ⟨(blk_cell BK387.out 0).trans rfl, (blk_cell BK387.out 1).trans rfl, (blk_cell BK387.out 2).trans rfl, (blk_cell BK387.out 3).trans rfl, (blk_cell BK387.out 4).trans rfl, (blk_cell BK387.out 5).trans rfl, (blk_cell BK387.out 6).trans rfl, (blk_cell BK387.out 7).trans rfl, (blk_cell BK387.out 8).trans rfl, (blk_cell BK387.out 9).trans rfl⟩ (fun hHeld => ?_); refine with_tabW miradorlaw13_FormatBack.tab14 miradorlaw13_FormatBack.bits14 (fun HT_ HW_ => ?_)
                                      generalize w70.drew = w71 at BK387 BK402 HB hHeld ⊢
                                      refine pure_ (i := 0) (N := some 85) (v := ?_) (a' := ?_) #[true, false, false, false, false, false, false, false, false, false, false, false, false, false, false, false, false, false, false, false, false, false, false, false, false, false, false, false, false, false, false, false, false, false, false, false, false, false, false, false, false, false, false, false, false, false, false, false] rfl rfl (any_of HT_.out (by kernel_rfl)) (fun _ _ _ h => h) (Or.inl ⟨by rfl, ?_⟩) ?_ ?_
                                      rotate_left
                                      · intro w'
                                        go_simp
                                        with_reducible rfl
                                      rotate_left
                                      · simp only [Act.put, List.setIfInBounds_toArray, List.set_cons_zero, List.set_cons_succ, i64_w, i32_w]
                                        rfl
                                      refine pure_ (i := 1) (N := some 86) (v := ?_) (a' := ?_) #[true, true, false, false, false, false, false, false, false, false, false, false, false, false, false, false, false, false, false, false, false, false, false, false, false, false, false, false, false, false, false, false, false, false, false, false, false, false, false, false, false, false, false, false, false, false, false, false] rfl rfl (any_of HT_.out (by kernel_rfl)) (fun _ _ _ h => h) (Or.inl ⟨by rfl, ?_⟩) ?_ ?_
                                      rotate_left
                                      · intro w'
                                        go_simp
                                        with_reducible rfl
                                      rotate_left
                                      · simp only [Act.put, List.setIfInBounds_toArray, List.set_cons_zero, List.set_cons_succ, i64_w, i32_w]
                                        rfl
                                      refine pure_ (i := 2) (N := some 87) (v := ?_) (a' := ?_) #[true, true, true, false, false, false, false, false, false, false, false, false, false, false, false, false, false, false, false, false, false, false, false, false, false, false, false, false, false, false, false, false, false, false, false, false, false, false, false, false, false, false, false, false, false, false, false, false] rfl rfl (any_of HT_.out (by kernel_rfl)) (fun _ _ _ h => h) (Or.inl ⟨by rfl, ?_⟩) ?_ ?_
                                      rotate_left
                                      · intro w'
                                        go_simp
                                        with_reducible rfl
                                      rotate_left
                                      · simp only [Act.put, List.setIfInBounds_toArray, List.set_cons_zero, List.set_cons_succ, i64_w, i32_w]
                                        rfl
                                      refine pure_ (i := 3) (N := some 88) (v := ?_) (a' := ?_) #[true, true, true, true, false, false, false, false, false, false, false, false, false, false, false, false, false, false, false, false, false, false, false, false, false, false, false, false, false, false, false, false, false, false, false, false, false, false, false, false, false, false, false, false, false, false, false, false] rfl rfl (any_of HT_.out (by kernel_rfl)) (fun _ _ _ h => h) (Or.inl ⟨by rfl, ?_⟩) ?_ ?_
                                      rotate_left
                                      · intro w'
                                        go_simp
                                        with_reducible rfl
                                      rotate_left
                                      · simp only [Act.put, List.setIfInBounds_toArray, List.set_cons_zero, List.set_cons_succ, i64_w, i32_w]
                                        rfl
                                      refine pure_ (i := 4) (N := some 89) (v := ?_) (a' := ?_) #[true, true, true, true, true, false, false, false, false, false, false, false, false, false, false, false, false, false, false, false, false, false, false, false, false, false, false, false, false, false, false, false, false, false, false, false, false, false, false, false, false, false, false, false, false, false, false, false] rfl rfl (any_of HT_.out (by kernel_rfl)) (fun _ _ _ h => h) (Or.inl ⟨by rfl, ?_⟩) ?_ ?_
                                      rotate_left
                                      · intro w'
                                        go_simp
                                        with_reducible rfl
                                      rotate_left
                                      · simp only [Act.put, List.setIfInBounds_toArray, List.set_cons_zero, List.set_cons_succ, i64_w, i32_w]
                                        rfl
                                      refine pure_ (i := 5) (N := some 90) (v := ?_) (a' := ?_) #[true, true, true, true, true, true, false, false, false, false, false, false, false, false, false, false, false, false, false, false, false, false, false, false, false, false, false, false, false, false, false, false, false, false, false, false, false, false, false, false, false, false, false, false, false, false, false, false] rfl rfl (any_of HT_.out (by kernel_rfl)) (fun _ _ _ h => h) (Or.inl ⟨by rfl, ?_⟩) ?_ ?_
                                      rotate_left
                                      · intro w'
                                        go_simp
                                        with_reducible rfl
                                      rotate_left
                                      · simp only [Act.put, List.setIfInBounds_toArray, List.set_cons_zero, List.set_cons_succ, i64_w, i32_w]
                                        rfl
                                      refine pure_ (i := 6) (N := some 91) (v := ?_) (a' := ?_) #[true, true, true, true, true, true, true, false, false, false, false, false, false, false, false, false, false, false, false, false, false, false, false, false, false, false, false, false, false, false, false, false, false, false, false, false, false, false, false, false, false, false, false, false, false, false, false, false] rfl rfl (any_of HT_.out (by kernel_rfl)) (fun _ _ _ h => h) (Or.inl ⟨by rfl, ?_⟩) ?_ ?_
                                      rotate_left
                                      · intro w'
                                        go_simp
                                        with_reducible rfl
                                      rotate_left
                                      · simp only [Act.put, List.setIfInBounds_toArray, List.set_cons_zero, List.set_cons_succ, i64_w, i32_w]
                                        rfl
                                      refine pure_ (i := 7) (N := some 92) (v := ?_) (a' := ?_) #[true, true, true, true, true, true, true, true, false, false, false, false, false, false, false, false, false, false, false, false, false, false, false, false, false, false, false, false, false, false, false, false, false, false, false, false, false, false, false, false, false, false, false, false, false, false, false, false] rfl rfl (any_of HT_.out (by kernel_rfl)) (fun _ _ _ h => h) (Or.inl ⟨by rfl, ?_⟩) ?_ ?_
                                      rotate_left
                                      · intro w'
                                        go_simp
                                        with_reducible rfl
                                      rotate_left
                                      · simp only [Act.put, List.setIfInBounds_toArray, List.set_cons_zero, List.set_cons_succ, i64_w, i32_w]
                                        rfl
                                      refine pure_ (i := 8) (N := some 93) (v := ?_) (a' := ?_) #[true, true, true, true, true, true, true, true, true, false, false, false, false, false, false, false, false, false, false, false, false, false, false, false, false, false, false, false, false, false, false, false, false, false, false, false, false, false, false, false, false, false, false, false, false, false, false, false] rfl rfl (any_of HT_.out (by kernel_rfl)) (fun _ _ _ h => h) (Or.inl ⟨by rfl, ?_⟩) ?_ ?_
                                      rotate_left
                                      · intro w'
                                        go_simp
                                        with_reducible rfl
                                      rotate_left
                                      · simp only [Act.put, List.setIfInBounds_toArray, List.set_cons_zero, List.set_cons_succ, i64_w, i32_w]
                                        rfl
                                      refine pure_ (i := 9) (N := some 94) (v := ?_) (a' := ?_) #[true, true, true, true, true, true, true, true, true, true, false, false, false, false, false, false, false, false, false, false, false, false, false, false, false, false, false, false, false, false, false, false, false, false, false, false, false, false, false, false, false, false, false, false, false, false, false, false] rfl rfl (any_of HT_.out (by kernel_rfl)) (fun _ _ _ h => h) (Or.inl ⟨by rfl, ?_⟩) ?_ ?_
                                      rotate_left
                                      · intro w'
                                        go_simp
                                        with_reducible rfl
                                      rotate_left
                                      · simp only [Act.put, List.setIfInBounds_toArray, List.set_cons_zero, List.set_cons_succ, i64_w, i32_w]
                                        rfl
                                      refine pure_ (i := 10) (N := some 95) (v := ?_) (a' := ?_) #[true, true, true, true, true, true, true, true, true, true, true, false, false, false, false, false, false, false, false, false, false, false, false, false, false, false, false, false, false, false, false, false, false, false, false, false, false, false, false, false, false, false, false, false, false, false, false, false] rfl rfl (any_of HT_.out (by kernel_rfl)) (fun _ _ _ h => h) (Or.inl ⟨by rfl, ?_⟩) ?_ ?_
                                      rotate_left
                                      · intro w'
                                        go_simp
                                        with_reducible rfl
                                      rotate_left
                                      · simp only [Act.put, List.setIfInBounds_toArray, List.set_cons_zero, List.set_cons_succ, i64_w, i32_w]
                                        rfl
                                      refine pure_ (i := 11) (N := some 96) (v := ?_) (a' := ?_) #[true, true, true, true, true, true, true, true, true, true, true, true, false, false, false, false, false, false, false, false, false, false, false, false, false, false, false, false, false, false, false, false, false, false, false, false, false, false, false, false, false, false, false, false, false, false, false, false] rfl rfl (any_of HT_.out (by kernel_rfl)) (fun _ _ _ h => h) (Or.inl ⟨by rfl, ?_⟩) ?_ ?_
                                      rotate_left
                                      · intro w'
                                        go_simp
                                        with_reducible rfl
                                      rotate_left
                                      · simp only [Act.put, List.setIfInBounds_toArray, List.set_cons_zero, List.set_cons_succ, i64_w, i32_w]
                                        rfl
                                      refine pure_ (i := 12) (N := some 97) (v := ?_) (a' := ?_) #[true, true, true, true, true, true, true, true, true, true, true, true, true, false, false, false, false, false, false, false, false, false, false, false, false, false, false, false, false, false, false, false, false, false, false, false, false, false, false, false, false, false, false, false, false, false, false, false] rfl rfl (any_of HT_.out (by kernel_rfl)) (fun _ _ _ h => h) (Or.inl ⟨by rfl, ?_⟩) ?_ ?_
                                      rotate_left
                                      · intro w'
                                        go_simp
                                        with_reducible rfl
                                      rotate_left
                                      · simp only [Act.put, List.setIfInBounds_toArray, List.set_cons_zero, List.set_cons_succ, i64_w, i32_w]
                                        rfl
                                      refine pure_ (i := 13) (N := some 98) (v := ?_) (a' := ?_) #[true, true, true, true, true, true, true, true, true, true, true, true, true, true, false, false, false, false, false, false, false, false, false, false, false, false, false, false, false, false, false, false, false, false, false, false, false, false, false, false, false, false, false, false, false, false, false, false] rfl rfl (any_of HT_.out (by kernel_rfl)) (fun _ _ _ h => h) (Or.inl ⟨by rfl, ?_⟩) ?_ ?_
                                      rotate_left
                                      · intro w'
                                        go_simp
                                        with_reducible rfl
                                      rotate_left
                                      · simp only [Act.put, List.setIfInBounds_toArray, List.set_cons_zero, List.set_cons_succ, i64_w, i32_w]
                                        rfl
                                      refine pure_ (i := 14) (N := some 99) (v := ?_) (a' := ?_) #[true, true, true, true, true, true, true, true, true, true, true, true, true, true, true, false, false, false, false, false, false, false, false, false, false, false, false, false, false, false, false, false, false, false, false, false, false, false, false, false, false, false, false, false, false, false, false, false] rfl rfl (any_of HT_.out (by kernel_rfl)) (fun _ _ _ h => h) (Or.inl ⟨by rfl, ?_⟩) ?_ ?_
                                      rotate_left
                                      · intro w'
                                        go_simp
                                        with_reducible rfl
                                      rotate_left
                                      · simp only [Act.put, List.setIfInBounds_toArray, List.set_cons_zero, List.set_cons_succ, i64_w, i32_w]
                                        rfl
                                      refine pure_ (i := 15) (N := some 100) (v := ?_) (a' := ?_) #[true, true, true, true, true, true, true, true, true, true, true, true, true, true, true, true, false, false, false, false, false, false, false, false, false, false, false, false, false, false, false, false, false, false, false, false, false, false, false, false, false, false, false, false, false, false, false, false] rfl rfl (any_of HT_.out (by kernel_rfl)) (fun _ _ _ h => h) (Or.inl ⟨by rfl, ?_⟩) ?_ ?_
                                      rotate_left
                                      · intro w'
                                        go_simp
                                        with_reducible rfl
                                      rotate_left
                                      · simp only [Act.put, List.setIfInBounds_toArray, List.set_cons_zero, List.set_cons_succ, i64_w, i32_w]
                                        rfl
                                      refine pure_ (i := 16) (N := some 101) (v := ?_) (a' := ?_) #[true, true, true, true, true, true, true, true, true, true, true, true, true, true, true, true, true, false, false, false, false, false, false, false, false, false, false, false, false, false, false, false, false, false, false, false, false, false, false, false, false, false, false, false, false, false, false, false] rfl rfl (any_of HT_.out (by kernel_rfl)) (fun _ _ _ h => h) (Or.inl ⟨by rfl, ?_⟩) ?_ ?_
                                      rotate_left
                                      · intro w'
                                        go_simp
                                        with_reducible rfl
                                      rotate_left
                                      · simp only [Act.put, List.setIfInBounds_toArray, List.set_cons_zero, List.set_cons_succ, i64_w, i32_w]
                                        rfl
                                      refine pure_ (i := 17) (N := some 102) (v := ?_) (a' := ?_) #[true, true, true, true, true, true, true, true, true, true, true, true, true, true, true, true, true, true, false, false, false, false, false, false, false, false, false, false, false, false, false, false, false, false, false, false, false, false, false, false, false, false, false, false, false, false, false, false] rfl rfl (any_of HT_.out (by kernel_rfl)) (fun _ _ _ h => h) (Or.inl ⟨by rfl, ?_⟩) ?_ ?_
                                      rotate_left
                                      · intro w'
                                        go_simp
                                        with_reducible rfl
                                      rotate_left
                                      · simp only [Act.put, List.setIfInBounds_toArray, List.set_cons_zero, List.set_cons_succ, i64_w, i32_w]
                                        rfl
                                      refine pure_ (i := 18) (N := some 103) (v := ?_) (a' := ?_) #[true, true, true, true, true, true, true, true, true, true, true, true, true, true, true, true, true, true, true, false, false, false, false, false, false, false, false, false, false, false, false, false, false, false, false, false, false, false, false, false, false, false, false, false, false, false, false, false] rfl rfl (any_of HT_.out (by kernel_rfl)) (fun _ _ _ h => h) (Or.inl ⟨by rfl, ?_⟩) ?_ ?_
                                      rotate_left
                                      · intro w'
                                        go_simp
                                        with_reducible rfl
                                      rotate_left
                                      · simp only [Act.put, List.setIfInBounds_toArray, List.set_cons_zero, List.set_cons_succ, i64_w, i32_w]
                                        rfl
                                      refine pure_ (i := 19) (N := some 104) (v := ?_) (a' := ?_) #[true, true, true, true, true, true, true, true, true, true, true, true, true, true, true, true, true, true, true, true, false, false, false, false, false, false, false, false, false, false, false, false, false, false, false, false, false, false, false, false, false, false, false, false, false, false, false, false] rfl rfl (any_of HT_.out (by kernel_rfl)) (fun _ _ _ h => h) (Or.inl ⟨by rfl, ?_⟩) ?_ ?_
                                      rotate_left
                                      · intro w'
                                        go_simp
                                        with_reducible rfl
                                      rotate_left
                                      · simp only [Act.put, List.setIfInBounds_toArray, List.set_cons_zero, List.set_cons_succ, i64_w, i32_w]
                                        rfl
                                      refine pure_ (i := 21) (N := some 106) (v := ?_) (a' := ?_) #[true, true, true, true, true, true, true, true, true, true, true, true, true, true, true, true, true, true, true, true, false, true, false, false, false, false, false, false, false, false, false, false, false, false, false, false, false, false, false, false, false, false, false, false, false, false, false, false] rfl rfl (any_of HT_.out (by kernel_rfl)) (fun _ _ _ h => h) (Or.inl ⟨by rfl, ?_⟩) ?_ ?_
                                      rotate_left
                                      · intro w'
                                        go_simp
                                        with_reducible rfl
                                      rotate_left
                                      · simp only [Act.put, List.setIfInBounds_toArray, List.set_cons_zero, List.set_cons_succ, i64_w, i32_w]
                                        rfl
                                      refine take_ (i := 20) (N := some 105) (v := ?_) (a' := ?_) #[true, true, true, true, true, true, true, true, true, true, true, true, true, true, true, true, true, true, true, true, true, true, false, false, false, false, false, false, false, false, false, false, false, false, false, false, false, false, false, false, false, false, false, false, false, false, false, false] rfl rfl (take_ofW HT_.out HW_.out (by kernel_rfl)) (fun _ _ _ h => h) (Or.inl ⟨by rfl, ?_⟩) hHeld ?_ ?_
                                      rotate_left
                                      · rintro w' ⟨s0, s1, s2, s3, s4, s5, s6, s7, s8, s9⟩
                                        go_simp
                                        with_reducible rfl
                                      rotate_left
                                      · simp only [Act.put, List.setIfInBounds_toArray, List.set_cons_zero, List.set_cons_succ, i64_w, i32_w]
                                        rfl
                                      refine take_ (i := 24) (N := some 109) (v := ?_) (a' := ?_) #[true, true, true, true, true, true, true, true, true, true, true, true, true, true, true, true, true, true, true, true, true, true, false, false, true, false, false, false, false, false, false, false, false, false, false, false, false, false, false, false, false, false, false, false, false, false, false, false] rfl rfl (take_ofW HT_.out HW_.out (by kernel_rfl)) (fun _ _ _ h => h) (Or.inl ⟨by rfl, ?_⟩) hHeld ?_ ?_
                                      rotate_left
                                      · rintro w' ⟨s0, s1, s2, s3, s4, s5, s6, s7, s8, s9⟩
                                        go_simp
                                        with_reducible rfl
                                      rotate_left
                                      · simp only [Act.put, List.setIfInBounds_toArray, List.set_cons_zero, List.set_cons_succ, i64_w, i32_w]
                                        rfl
                                      refine one_ (i := 22) (N := some 107) #[true, true, true, true, true, true, true, true, true, true, true, true, true, true, true, true, true, true, true, true, true, true, true, false, true, false, false, false, false, false, false, false, false, false, false, false, false, false, false, false, false, false, false, false, false, false, false, false] rfl rfl (one_of HT_.out (by kernel_rfl)) (by decide) (fun K hK => ?_)
                                      refine goes_ Try.func24 (by kernel_rfl) rfl #[.agg #[.int .i64 a0_0, .int .i64 a0_1, .bool a0_2, .bool a0_3, .int .i64 a0_4, .int .i64 a0_5, .int .i64 a0_6, .int .i64 a0_7, .int .i64 a0_8, .int .i64 a0_9], .int .i64 a1] (by rfl) rfl rfl (by (try simp only [List.map_toArray, List.map_cons, List.map_nil]); first | done | rfl | (simp only [List.length_drop, List.length_take]; rfl)) ?_
                                      with_reducible refine (format_Put.calls kj16 a0_0 a0_1 a0_2 a0_3 a0_4 a0_5 a0_6 a0_7 a0_8 a0_9 a1 t413 _ A52.out).mono ?_
                                      rintro e w72 ⟨rfl, hb⟩
                                      refine ⟨_, rfl, ?_⟩
                                      have n0_ := Aside0.mk (blk_below (g := gb387) (o := .cells #[.int .i64 a0_0, .int .i64 a0_1, .bool a0_2, .bool a0_3, .int .i64 a0_4, .int .i64 a0_5, .int .i64 a0_6, .int .i64 a0_7, .int .i64 a0_8, .int .i64 a0_9] 23 (0, 0)) (by (with_reducible repeat (first | refine blk_drewN ?_ _ | refine blk_drew ?_ | refine blk_alloc ?_ _)); exact BK387.out) hb)
                                      have n1_ := Aside0.mk (blk_below (g := gb402) (o := .cells #[.int .i64 t391, .int .i64 t392, .bool t393, .bool t394, .int .i64 t395, .int .i64 t396, .int .i64 t397, .int .i64 t398, .int .i64 t399, .int .i64 t400] 23 (0, 0)) (by (with_reducible repeat (first | refine blk_drewN ?_ _ | refine blk_drew ?_ | refine blk_alloc ?_ _)); exact BK402.out) hb)
                                      have n2_ := Aside0.mk (below_step (by repeat (first | (with_reducible first | exact HB.out | apply below_alloc | apply pw_below_drewN | apply below_drew1 | refine below_set ?_ GE387.out | refine below_set ?_ GE402.out) | exact HB.out)) hb)
                                      clear BK387
                                      clear BK402
                                      clear HB
                                      have BK387 := n0_
                                      have BK402 := n1_
                                      have HB := n2_
                                      clear n0_ n1_ n2_
                                      (try clear hb)
                                      (try clear hb2)
                                      (try clear hk)
                                      (try clear hi)
                                      refine hK.out _ _ ⟨(blk_cell BK387.out 0).trans rfl, (blk_cell BK387.out 1).trans rfl, (blk_cell BK387.out 2).trans rfl, (blk_cell BK387.out 3).trans rfl, (blk_cell BK387.out 4).trans rfl, (blk_cell BK387.out 5).trans rfl, (blk_cell BK387.out 6).trans rfl, (blk_cell BK387.out 7).trans rfl, (blk_cell BK387.out 8).trans rfl, (blk_cell BK387.out 9).trans rfl⟩ (fun hHeld => ?_)
                                      clear hK K
                                      refine norm_ (a' := ?_) ?_ ?_
                                      rotate_left
                                      · show Act.put _ (some 107) _ = _
                                        simp only [Act.put, List.setIfInBounds_toArray, List.set_cons_zero, List.set_cons_succ, i64_w, i32_w]
                                        rfl
                                      refine pure_ (i := 23) (N := some 108) (v := ?_) (a' := ?_) #[true, true, true, true, true, true, true, true, true, true, true, true, true, true, true, true, true, true, true, true, true, true, true, true, true, false, false, false, false, false, false, false, false, false, false, false, false, false, false, false, false, false, false, false, false, false, false, false] rfl rfl (any_of HT_.out (by kernel_rfl)) (fun _ _ _ h => h) (Or.inl ⟨by rfl, ?_⟩) ?_ ?_
                                      rotate_left
                                      · intro w'
                                        go_simp
                                        with_reducible rfl
                                      rotate_left
                                      · simp only [Act.put, List.setIfInBounds_toArray, List.set_cons_zero, List.set_cons_succ, i64_w, i32_w]
                                        rfl
                                      refine one_ (i := 25) (N := some 110) #[true, true, true, true, true, true, true, true, true, true, true, true, true, true, true, true, true, true, true, true, true, true, true, true, true, true, false, false, false, false, false, false, false, false, false, false, false, false, false, false, false, false, false, false, false, false, false, false] rfl rfl (one_of HT_.out (by kernel_rfl)) (by decide) (fun K hK => ?_)
                                      refine goes_ Try.func20 (by kernel_rfl) rfl #[.agg #[.int .i64 a0_0, .int .i64 a0_1, .bool a0_2, .bool a0_3, .int .i64 a0_4, .int .i64 a0_5, .int .i64 a0_6, .int .i64 a0_7, .int .i64 a0_8, .int .i64 a0_9]] (by rfl) rfl rfl (by (try simp only [List.map_toArray, List.map_cons, List.map_nil]); first | done | rfl | (simp only [List.length_drop, List.length_take]; rfl)) ?_
                                      with_reducible refine (format_Size.calls a0_0 a0_1 a0_2 a0_3 a0_4 a0_5 a0_6 a0_7 a0_8 a0_9 t414 _ A53.out).mono ?_
                                      rintro e w73 ⟨rfl, hb⟩
                                      refine ⟨_, rfl, ?_⟩
                                      have n0_ := Aside0.mk (blk_below (g := gb387) (o := .cells #[.int .i64 a0_0, .int .i64 a0_1, .bool a0_2, .bool a0_3, .int .i64 a0_4, .int .i64 a0_5, .int .i64 a0_6, .int .i64 a0_7, .int .i64 a0_8, .int .i64 a0_9] 23 (0, 0)) (by (with_reducible repeat (first | refine blk_drewN ?_ _ | refine blk_drew ?_ | refine blk_alloc ?_ _)); exact BK387.out) hb)
                                      have n1_ := Aside0.mk (blk_below (g := gb402) (o := .cells #[.int .i64 t391, .int .i64 t392, .bool t393, .bool t394, .int .i64 t395, .int .i64 t396, .int .i64 t397, .int .i64 t398, .int .i64 t399, .int .i64 t400] 23 (0, 0)) (by (with_reducible repeat (first | refine blk_drewN ?_ _ | refine blk_drew ?_ | refine blk_alloc ?_ _)); exact BK402.out) hb)
                                      have n2_ := Aside0.mk (below_step (by repeat (first | (with_reducible first | exact HB.out | apply below_alloc | apply pw_below_drewN | apply below_drew1 | refine below_set ?_ GE387.out | refine below_set ?_ GE402.out) | exact HB.out)) hb)
                                      clear BK387
                                      clear BK402
                                      clear HB
                                      have BK387 := n0_
                                      have BK402 := n1_
                                      have HB := n2_
                                      clear n0_ n1_ n2_
                                      (try clear hb)
                                      (try clear hb2)
                                      (try clear hk)
                                      (try clear hi)
                                      refine hK.out _ _ ⟨(blk_cell BK387.out 0).trans rfl, (blk_cell BK387.out 1).trans rfl, (blk_cell BK387.out 2).trans rfl, (blk_cell BK387.out 3).trans rfl, (blk_cell BK387.out 4).trans rfl, (blk_cell BK387.out 5).trans rfl, (blk_cell BK387.out 6).trans rfl, (blk_cell BK387.out 7).trans rfl, (blk_cell BK387.out 8).trans rfl, (blk_cell BK387.out 9).trans rfl⟩ (fun hHeld => ?_)
                                      clear hK K
                                      refine norm_ (a' := ?_) ?_ ?_
                                      rotate_left
                                      · show Act.put _ (some 110) _ = _
                                        simp only [Act.put, List.setIfInBounds_toArray, List.set_cons_zero, List.set_cons_succ, i64_w, i32_w]
                                        rfl
                                      refine pure_ (i := 26) (N := some 111) (v := ?_) (a' := ?_) #[true, true, true, true, true, true, true, true, true, true, true, true, true, true, true, true, true, true, true, true, true, true, true, true, true, true, true, false, false, false, false, false, false, false, false, false, false, false, false, false, false, false, false, false, false, false, false, false] rfl rfl (any_of HT_.out (by kernel_rfl)) (fun _ _ _ h => h) (Or.inl ⟨by rfl, ?_⟩) ?_ ?_
                                      rotate_left
                                      · intro w'
                                        go_simp
                                        with_reducible rfl
                                      rotate_left
                                      · simp only [Act.put, List.setIfInBounds_toArray, List.set_cons_zero, List.set_cons_succ, i64_w, i32_w]
                                        rfl
                                      refine pure_ (i := 27) (N := some 112) (v := ?_) (a' := ?_) #[true, true, true, true, true, true, true, true, true, true, true, true, true, true, true, true, true, true, true, true, true, true, true, true, true, true, true, true, false, false, false, false, false, false, false, false, false, false, false, false, false, false, false, false, false, false, false, false] rfl rfl (any_of HT_.out (by kernel_rfl)) (fun _ _ _ h => h) (Or.inl ⟨by rfl, ?_⟩) ?_ ?_
                                      rotate_left
                                      · intro w'
                                        go_simp
                                        with_reducible rfl
                                      rotate_left
                                      · simp only [Act.put, List.setIfInBounds_toArray, List.set_cons_zero, List.set_cons_succ, i64_w, i32_w]
                                        rfl
                                      refine pure_ (i := 28) (N := some 113) (v := ?_) (a' := ?_) #[true, true, true, true, true, true, true, true, true, true, true, true, true, true, true, true, true, true, true, true, true, true, true, true, true, true, true, true, true, false, false, false, false, false, false, false, false, false, false, false, false, false, false, false, false, false, false, false] rfl rfl (any_of HT_.out (by kernel_rfl)) (fun _ _ _ h => h) (Or.inl ⟨by rfl, ?_⟩) ?_ ?_
                                      rotate_left
                                      · intro w'
                                        go_simp
                                        with_reducible rfl
                                      rotate_left
                                      · simp only [Act.put, List.setIfInBounds_toArray, List.set_cons_zero, List.set_cons_succ, i64_w, i32_w]
                                        rfl
                                      refine pure_ (i := 30) (N := some 115) (v := ?_) (a' := ?_) #[true, true, true, true, true, true, true, true, true, true, true, true, true, true, true, true, true, true, true, true, true, true, true, true, true, true, true, true, true, false, true, false, false, false, false, false, false, false, false, false, false, false, false, false, false, false, false, false] rfl rfl (any_of HT_.out (by kernel_rfl)) (fun _ _ _ h => h) (Or.inl ⟨by rfl, ?_⟩) ?_ ?_
                                      rotate_left
                                      · intro w'
                                        go_simp
                                        with_reducible rfl
                                      rotate_left
                                      · simp only [Act.put, List.setIfInBounds_toArray, List.set_cons_zero, List.set_cons_succ, i64_w, i32_w]
                                        rfl
                                      refine pure_ (i := 33) (N := some 118) (v := ?_) (a' := ?_) #[true, true, true, true, true, true, true, true, true, true, true, true, true, true, true, true, true, true, true, true, true, true, true, true, true, true, true, true, true, false, true, false, false, true, false, false, false, false, false, false, false, false, false, false, false, false, false, false] rfl rfl (any_of HT_.out (by kernel_rfl)) (fun _ _ _ h => h) (Or.inl ⟨by rfl, ?_⟩) ?_ ?_
                                      rotate_left
                                      · intro w'
                                        go_simp
                                        with_reducible rfl
                                      rotate_left
                                      · simp only [Act.put, List.setIfInBounds_toArray, List.set_cons_zero, List.set_cons_succ, i64_w, i32_w]
                                        rfl
                                      refine take_ (i := 29) (N := some 114) (v := ?_) (a' := ?_) #[true, true, true, true, true, true, true, true, true, true, true, true, true, true, true, true, true, true, true, true, true, true, true, true, true, true, true, true, true, true, true, false, false, true, false, false, false, false, false, false, false, false, false, false, false, false, false, false] rfl rfl (take_ofW HT_.out HW_.out (by kernel_rfl)) (fun _ _ _ h => h) (Or.inl ⟨by rfl, ?_⟩) hHeld ?_ ?_
                                      rotate_left
                                      · rintro w' ⟨s0, s1, s2, s3, s4, s5, s6, s7, s8, s9⟩
                                        go_simp
                                        with_reducible rfl
                                      rotate_left
                                      · simp only [Act.put, List.setIfInBounds_toArray, List.set_cons_zero, List.set_cons_succ, i64_w, i32_w]
                                        rfl
                                      refine one_ (i := 31) (N := some 116) #[true, true, true, true, true, true, true, true, true, true, true, true, true, true, true, true, true, true, true, true, true, true, true, true, true, true, true, true, true, true, true, true, false, true, false, false, false, false, false, false, false, false, false, false, false, false, false, false] rfl rfl (one_of HT_.out (by kernel_rfl)) (by decide) (fun K hK => ?_)
                                      refine goes_ Try.func25 (by kernel_rfl) rfl #[.agg #[.int .i64 a0_0, .int .i64 a0_1, .bool a0_2, .bool a0_3, .int .i64 a0_4, .int .i64 a0_5, .int .i64 a0_6, .int .i64 a0_7, .int .i64 a0_8, .int .i64 a0_9], .int .i64 t407] (by rfl) rfl rfl (by (try simp only [List.map_toArray, List.map_cons, List.map_nil]); first | done | rfl | (simp only [List.length_drop, List.length_take]; rfl)) ?_
                                      with_reducible refine (format_CPut.calls kj16 a0_0 a0_1 a0_2 a0_3 a0_4 a0_5 a0_6 a0_7 a0_8 a0_9 t407 t415 _ A55.out).mono ?_
                                      rintro e w74 ⟨rfl, hb⟩
                                      refine ⟨_, rfl, ?_⟩
                                      have n0_ := Aside0.mk (blk_below (g := gb387) (o := .cells #[.int .i64 a0_0, .int .i64 a0_1, .bool a0_2, .bool a0_3, .int .i64 a0_4, .int .i64 a0_5, .int .i64 a0_6, .int .i64 a0_7, .int .i64 a0_8, .int .i64 a0_9] 23 (0, 0)) (by (with_reducible repeat (first | refine blk_drewN ?_ _ | refine blk_drew ?_ | refine blk_alloc ?_ _)); exact BK387.out) hb)
                                      have n1_ := Aside0.mk (blk_below (g := gb402) (o := .cells #[.int .i64 t391, .int .i64 t392, .bool t393, .bool t394, .int .i64 t395, .int .i64 t396, .int .i64 t397, .int .i64 t398, .int .i64 t399, .int .i64 t400] 23 (0, 0)) (by (with_reducible repeat (first | refine blk_drewN ?_ _ | refine blk_drew ?_ | refine blk_alloc ?_ _)); exact BK402.out) hb)
                                      have n2_ := Aside0.mk (below_step (by repeat (first | (with_reducible first | exact HB.out | apply below_alloc | apply pw_below_drewN | apply below_drew1 | refine below_set ?_ GE387.out | refine below_set ?_ GE402.out) | exact HB.out)) hb)
                                      clear BK387
                                      clear BK402
                                      clear HB
                                      have BK387 := n0_
                                      have BK402 := n1_
                                      have HB := n2_
                                      clear n0_ n1_ n2_
                                      (try clear hb)
                                      (try clear hb2)
                                      (try clear hk)
                                      (try clear hi)
                                      refine hK.out _ _ ⟨(blk_cell BK387.out 0).trans rfl, (blk_cell BK387.out 1).trans rfl, (blk_cell BK387.out 2).trans rfl, (blk_cell BK387.out 3).trans rfl, (blk_cell BK387.out 4).trans rfl, (blk_cell BK387.out 5).trans rfl, (blk_cell BK387.out 6).trans rfl, (blk_cell BK387.out 7).trans rfl, (blk_cell BK387.out 8).trans rfl, (blk_cell BK387.out 9).trans rfl⟩ (fun hHeld => ?_)
                                      clear hK K
                                      refine norm_ (a' := ?_) ?_ ?_
                                      rotate_left
                                      · show Act.put _ (some 116) _ = _
                                        simp only [Act.put, List.setIfInBounds_toArray, List.set_cons_zero, List.set_cons_succ, i64_w, i32_w]
                                        rfl
                                      refine pure_ (i := 32) (N := some 117) (v := ?_) (a' := ?_) #[true, true, true, true, true, true, true, true, true, true, true, true, true, true, true, true, true, true, true, true, true, true, true, true, true, true, true, true, true, true, true, true, true, true, false, false, false, false, false, false, false, false, false, false, false, false, false, false] rfl rfl (any_of HT_.out (by kernel_rfl)) (fun _ _ _ h => h) (Or.inl ⟨by rfl, ?_⟩) ?_ ?_
                                      rotate_left
                                      · intro w'
                                        go_simp
                                        with_reducible rfl
                                      rotate_left
                                      · simp only [Act.put, List.setIfInBounds_toArray, List.set_cons_zero, List.set_cons_succ, i64_w, i32_w]
                                        rfl
                                      refine pure_ (i := 34) (N := some 119) (v := ?_) (a' := ?_) #[true, true, true, true, true, true, true, true, true, true, true, true, true, true, true, true, true, true, true, true, true, true, true, true, true, true, true, true, true, true, true, true, true, true, true, false, false, false, false, false, false, false, false, false, false, false, false, false] rfl rfl (any_of HT_.out (by kernel_rfl)) (fun _ _ _ h => h) (Or.inl ⟨by rfl, ?_⟩) ?_ ?_
                                      rotate_left
                                      · intro w'
                                        go_simp
                                        with_reducible rfl
                                      rotate_left
                                      · simp only [Act.put, List.setIfInBounds_toArray, List.set_cons_zero, List.set_cons_succ, i64_w, i32_w]
                                        rfl
                                      refine pure_ (i := 35) (N := some 120) (v := ?_) (a' := ?_) #[true, true, true, true, true, true, true, true, true, true, true, true, true, true, true, true, true, true, true, true, true, true, true, true, true, true, true, true, true, true, true, true, true, true, true, true, false, false, false, false, false, false, false, false, false, false, false, false] rfl rfl (any_of HT_.out (by kernel_rfl)) (fun _ _ _ h => h) (Or.inl ⟨by rfl, ?_⟩) ?_ ?_
                                      rotate_left
                                      · intro w'
                                        go_simp
                                        with_reducible rfl
                                      rotate_left
                                      · simp only [Act.put, List.setIfInBounds_toArray, List.set_cons_zero, List.set_cons_succ, i64_w, i32_w]
                                        rfl
                                      refine pure_ (i := 36) (N := some 121) (v := ?_) (a' := ?_) #[true, true, true, true, true, true, true, true, true, true, true, true, true, true, true, true, true, true, true, true, true, true, true, true, true, true, true, true, true, true, true, true, true, true, true, true, true, false, false, false, false, false, false, false, false, false, false, false] rfl rfl (any_of HT_.out (by kernel_rfl)) (fun _ _ _ h => h) (Or.inl ⟨by rfl, ?_⟩) ?_ ?_
                                      rotate_left
                                      · intro w'
                                        go_simp
                                        with_reducible rfl
                                      rotate_left
                                      · simp only [Act.put, List.setIfInBounds_toArray, List.set_cons_zero, List.set_cons_succ, i64_w, i32_w]
                                        rfl
                                      refine pure_ (i := 37) (N := some 122) (v := ?_) (a' := ?_) #[true, true, true, true, true, true, true, true, true, true, true, true, true, true, true, true, true, true, true, true, true, true, true, true, true, true, true, true, true, true, true, true, true, true, true, true, true, true, false, false, false, false, false, false, false, false, false, false] rfl rfl (any_of HT_.out (by kernel_rfl)) (fun _ _ _ h => h) (Or.inl ⟨by rfl, ?_⟩) ?_ ?_
                                      rotate_left
                                      · intro w'
                                        go_simp
                                        with_reducible rfl
                                      rotate_left
                                      · simp only [Act.put, List.setIfInBounds_toArray, List.set_cons_zero, List.set_cons_succ, i64_w, i32_w]
                                        rfl
                                      refine pure_ (i := 38) (N := some 123) (v := ?_) (a' := ?_) #[true, true, true, true, true, true, true, true, true, true, true, true, true, true, true, true, true, true, true, true, true, true, true, true, true, true, true, true, true, true, true, true, true, true, true, true, true, true, true, false, false, false, false, false, false, false, false, false] rfl rfl (any_of HT_.out (by kernel_rfl)) (fun _ _ _ h => h) (Or.inl ⟨by rfl, ?_⟩) ?_ ?_
                                      rotate_left
                                      · intro w'
                                        go_simp
                                        with_reducible rfl
                                      rotate_left
                                      · simp only [Act.put, List.setIfInBounds_toArray, List.set_cons_zero, List.set_cons_succ, i64_w, i32_w]
                                        rfl
                                      refine pure_ (i := 39) (N := some 124) (v := ?_) (a' := ?_) #[true, true, true, true, true, true, true, true, true, true, true, true, true, true, true, true, true, true, true, true, true, true, true, true, true, true, true, true, true, true, true, true, true, true, true, true, true, true, true, true, false, false, false, false, false, false, false, false] rfl rfl (any_of HT_.out (by kernel_rfl)) (fun _ _ _ h => h) (Or.inl ⟨by rfl, ?_⟩) ?_ ?_
                                      rotate_left
                                      · intro w'
                                        go_simp
                                        with_reducible rfl
                                      rotate_left
                                      · simp only [Act.put, List.setIfInBounds_toArray, List.set_cons_zero, List.set_cons_succ, i64_w, i32_w]
                                        rfl
                                      refine pure_ (i := 40) (N := some 125) (v := ?_) (a' := ?_) #[true, true, true, true, true, true, true, true, true, true, true, true, true, true, true, true, true, true, true, true, true, true, true, true, true, true, true, true, true, true, true, true, true, true, true, true, true, true, true, true, true, false, false, false, false, false, false, false] rfl rfl (any_of HT_.out (by kernel_rfl)) (fun _ _ _ h => h) (Or.inl ⟨by rfl, ?_⟩) ?_ ?_
                                      rotate_left
                                      · intro w'
                                        go_simp
                                        with_reducible rfl
                                      rotate_left
                                      · simp only [Act.put, List.setIfInBounds_toArray, List.set_cons_zero, List.set_cons_succ, i64_w, i32_w]
                                        rfl
                                      refine pure_ (i := 41) (N := some 126) (v := ?_) (a' := ?_) #[true, true, true, true, true, true, true, true, true, true, true, true, true, true, true, true, true, true, true, true, true, true, true, true, true, true, true, true, true, true, true, true, true, true, true, true, true, true, true, true, true, true, false, false, false, false, false, false] rfl rfl (any_of HT_.out (by kernel_rfl)) (fun _ _ _ h => h) (Or.inl ⟨by rfl, ?_⟩) ?_ ?_
                                      rotate_left
                                      · intro w'
                                        go_simp
                                        with_reducible rfl
                                      rotate_left
                                      · simp only [Act.put, List.setIfInBounds_toArray, List.set_cons_zero, List.set_cons_succ, i64_w, i32_w]
                                        rfl
                                      refine pure_ (i := 42) (N := some 127) (v := ?_) (a' := ?_) #[true, true, true, true, true, true, true, true, true, true, true, true, true, true, true, true, true, true, true, true, true, true, true, true, true, true, true, true, true, true, true, true, true, true, true, true, true, true, true, true, true, true, true, false, false, false, false, false] rfl rfl (any_of HT_.out (by kernel_rfl)) (fun _ _ _ h => h) (Or.inl ⟨by rfl, ?_⟩) ?_ ?_
                                      rotate_left
                                      · intro w'
                                        go_simp
                                        with_reducible rfl
                                      rotate_left
                                      · simp only [Act.put, List.setIfInBounds_toArray, List.set_cons_zero, List.set_cons_succ, i64_w, i32_w]
                                        rfl
                                      refine take_ (i := 43) (N := some 128) (v := ?_) (a' := ?_) #[true, true, true, true, true, true, true, true, true, true, true, true, true, true, true, true, true, true, true, true, true, true, true, true, true, true, true, true, true, true, true, true, true, true, true, true, true, true, true, true, true, true, true, true, false, false, false, false] rfl rfl (take_ofW HT_.out HW_.out (by kernel_rfl)) (fun _ _ _ h => h) (Or.inl ⟨by rfl, ?_⟩) hHeld ?_ ?_
                                      rotate_left
                                      · rintro w' ⟨s0, s1, s2, s3, s4, s5, s6, s7, s8, s9⟩
                                        go_simp
                                        with_reducible rfl
                                      rotate_left
                                      · simp only [Act.put, List.setIfInBounds_toArray, List.set_cons_zero, List.set_cons_succ, i64_w, i32_w]
                                        rfl
                                      refine pure_ (i := 44) (N := some 129) (v := ?_) (a' := ?_) #[true, true, true, true, true, true, true, true, true, true, true, true, true, true, true, true, true, true, true, true, true, true, true, true, true, true, true, true, true, true, true, true, true, true, true, true, true, true, true, true, true, true, true, true, true, false, false, false] rfl rfl (any_of HT_.out (by kernel_rfl)) (fun _ _ _ h => h) (Or.inl ⟨by rfl, ?_⟩) ?_ ?_
                                      rotate_left
                                      · intro w'
                                        go_simp
                                        with_reducible rfl
                                      rotate_left
                                      · simp only [Act.put, List.setIfInBounds_toArray, List.set_cons_zero, List.set_cons_succ, i64_w, i32_w]
                                        rfl
                                      refine pure_ (i := 45) (N := some 130) (v := ?_) (a' := ?_) #[true, true, true, true, true, true, true, true, true, true, true, true, true, true, true, true, true, true, true, true, true, true, true, true, true, true, true, true, true, true, true, true, true, true, true, true, true, true, true, true, true, true, true, true, true, true, false, false] rfl rfl (any_of HT_.out (by kernel_rfl)) (fun _ _ _ h => h) (Or.inl ⟨by rfl, ?_⟩) ?_ ?_
                                      rotate_left
                                      · intro w'
                                        go_simp
                                        with_reducible rfl
                                      rotate_left
                                      · simp only [Act.put, List.setIfInBounds_toArray, List.set_cons_zero, List.set_cons_succ, i64_w, i32_w]
                                        rfl
                                      refine pure_ (i := 46) (N := some 131) (v := ?_) (a' := ?_) #[true, true, true, true, true, true, true, true, true, true, true, true, true, true, true, true, true, true, true, true, true, true, true, true, true, true, true, true, true, true, true, true, true, true, true, true, true, true, true, true, true, true, true, true, true, true, true, false] rfl rfl (any_of HT_.out (by kernel_rfl)) (fun _ _ _ h => h) (Or.inl ⟨by rfl, ?_⟩) ?_ ?_
                                      rotate_left
                                      · intro w'
                                        go_simp
                                        with_reducible rfl
                                      rotate_left
                                      · simp only [Act.put, List.setIfInBounds_toArray, List.set_cons_zero, List.set_cons_succ, i64_w, i32_w]
                                        rfl
                                      refine pure_ (i := 47) (N := some 6) (v := ?_) (a' := ?_) #[true, true, true, true, true, true, true, true, true, true, true, true, true, true, true, true, true, true, true, true, true, true, true, true, true, true, true, true, true, true, true, true, true, true, true, true, true, true, true, true, true, true, true, true, true, true, true, true] rfl rfl (any_of HT_.out (by kernel_rfl)) (fun _ _ _ h => h) (Or.inl ⟨by rfl, ?_⟩) ?_ ?_
                                      rotate_left
                                      · intro w'
                                        go_simp
                                        with_reducible rfl
                                      rotate_left
                                      · simp only [Act.put, List.setIfInBounds_toArray, List.set_cons_zero, List.set_cons_succ, i64_w, i32_w]
                                        rfl
                                      refine done_ (done_of HT_.out (by kernel_rfl)) ?_
                                      try go_wp2
                                      go_ret
                                      exact ⟨by first | rfl | (simp [errW_none, errW_some] <;> rfl) | (simp only [← hji39]; first | rfl | (simp [errW_none, errW_some] <;> rfl)) | (simp [*, errW_none, errW_some] <;> rfl), by repeat (first | (with_reducible first | exact HB.out | apply below_alloc | apply pw_below_drewN | apply below_drew1 | refine below_set ?_ GE387.out | refine below_set ?_ GE402.out) | exact HB.out)⟩
                                    · rw [if_neg c57] at H
                                      have c57b0 : decide (0 ≤ t407) = false := decide_eq_false c57
                                      clear c57
                                      rw [HRT.out] at H
                                      exact absurd (Option.some.inj H) (by decide)
                                  · rw [if_neg c56] at H
                                    have c56b0 : ((t415.size : Int) == t411) = false := beq_eq_false_iff_ne.mpr c56
                                    have c56b1 : ((t415.size : Int) != t411) = true := bne_iff_ne.mpr c56
                                    rw [HRT.out] at H
                                    exact absurd (Option.some.inj H) (by decide)
                                · rw [if_neg c54] at H
                                  have c54b0 : ((t413.size : Int) == t414) = false := beq_eq_false_iff_ne.mpr c54
                                  have c54b1 : ((t413.size : Int) != t414) = true := bne_iff_ne.mpr c54
                                  rw [HRT.out] at H
                                  exact absurd (Option.some.inj H) (by decide)
                              · rw [if_neg c51] at H
                                have c51b0 : (t410 == 0) = false := beq_eq_false_iff_ne.mpr c51
                                have c51b1 : (t410 != 0) = true := bne_iff_ne.mpr c51
                                rw [HRT.out] at H
                                exact absurd (Option.some.inj H) (by decide)
                            · rw [if_neg c50] at H
                              have c50b0 : (t409 == t407) = false := beq_eq_false_iff_ne.mpr c50
                              have c50b1 : (t409 != t407) = true := bne_iff_ne.mpr c50
                              rw [HRT.out] at H
                              exact absurd (Option.some.inj H) (by decide)
                          · rw [if_neg c49] at H
                            have c49b0 : (t406 == 0) = false := beq_eq_false_iff_ne.mpr c49
                            have c49b1 : (t406 != 0) = true := bne_iff_ne.mpr c49
                            rw [HRT.out] at H
                            exact absurd (Option.some.inj H) (by decide)
                        · rw [if_neg c48] at H
                          have c48b0 : (t405 == (Go.bits .and .i64 a1 (wrap64 ((ji39) - 1)))) = false := beq_eq_false_iff_ne.mpr c48
                          have c48b1 : (t405 != (Go.bits .and .i64 a1 (wrap64 ((ji39) - 1)))) = true := bne_iff_ne.mpr c48
                          rw [HRT.out] at H
                          exact absurd (Option.some.inj H) (by decide)
                      · rw [if_neg c45] at H
                        exact absurd H (by simp)
                    · rw [if_neg c41] at H
                      exact absurd H (by simp)
                  · rw [if_neg c38] at H
                    exact absurd H (by simp)
          · rw [if_neg c15] at H
            exact absurd H (by simp)
  · replace c5 := Bool.eq_false_iff.mpr c5
    subst c5
    have H1 : (some false) = some r := by rw [if_neg (show ¬ (false = true) by decide)] at H; exact H
    clear H
    have H := H1
    clear H1
    rw [HRT.out] at H
    exact absurd (Option.some.inj H) (by decide)

end Go.Proofs.Ytaielfghgmghgaa.X
