/- What each Go function that these laws use answers: as a Lean function, with the proof that the machine's call comes to it. Written by a program of this session (xprint.py). -/
import Derived.Test.YtaielfghgmghgaaXx0
import Derived.Test.YtaielfghgmghgaaXx2
import Derived.Test.YtaielfghgmghgaaXx4
import Derived.Test.YtaielfghgmghgaaXx5
import Derived.Test.YtaielfghgmghgaaXx13
namespace Go.Proofs.Ytaielfghgmghgaa.X
open Go.RowKit Go.Proofs.YtaielfghgmghgaaW.PrintWords Go.Proofs.YtaielfghgmghgaaW.PrintLast Go.Proofs.YtaielfghgmghgaaW.PrintMore
attribute [local go_sem] max2_int min2_int max_two min_two max_three min_three max_four min_four   -- for this text's walks alone
set_option linter.unusedVariables false
set_option linter.unusedSimpArgs false

/-! ### miradorlaw13_FormatOrder: function 6 -/
def miradorlaw13_FormatOrder.f (k : Nat) (a0_0 : Int) (a0_1 : Int) (a0_2 : Bool) (a0_3 : Bool) (a0_4 : Int) (a0_5 : Int) (a0_6 : Int) (a0_7 : Int) (a0_8 : Int) (a0_9 : Int) (a1 : Int) : Option (Bool) := (miradorlaw13_works.f).bind fun t362 => (if t362 = true then ((format_Valid.f a0_0 a0_1 a0_2 a0_3 a0_4 a0_5 a0_6 a0_7 a0_8 a0_9).bind fun t363 => (if t363 = true then ((format_Put.f k a0_0 a0_1 a0_2 a0_3 a0_4 a0_5 a0_6 a0_7 a0_8 a0_9 a1).bind fun t365 => ((format_Put.f k a0_0 a0_1 (!a0_2) a0_3 a0_4 a0_5 a0_6 a0_7 a0_8 a0_9 a1).bind fun t366 => ((format_CPut.f k a0_0 a0_1 a0_2 a0_3 a0_4 a0_5 a0_6 a0_7 a0_8 a0_9 a1).bind fun t367 => ((format_CPut.f k a0_0 a0_1 (!a0_2) a0_3 a0_4 a0_5 a0_6 a0_7 a0_8 a0_9 a1).bind fun t368 => ((miradorref01_Turned.f k t366).bind fun t369 => (if t365.toList = t369.toList then ((miradorref01_Turned.f k t368).bind fun t370 => (if t367.toList = t370.toList then ((format_Value.f a0_0 a0_1 a0_2 a0_3 a0_4 a0_5 a0_6 a0_7 a0_8 a0_9 a1).bind fun t371 => ((format_Value.f a0_0 a0_1 (!a0_2) a0_3 a0_4 a0_5 a0_6 a0_7 a0_8 a0_9 a1).bind fun t372 => (if t371 = t372 then ((format_Colour.f a0_0 a0_1 a0_2 a0_3 a0_4 a0_5 a0_6 a0_7 a0_8 a0_9 a1).bind fun t373 => ((format_Colour.f a0_0 a0_1 (!a0_2) a0_3 a0_4 a0_5 a0_6 a0_7 a0_8 a0_9 a1).bind fun t374 => (if t373 = t374 then ((format_Valid.f a0_0 a0_1 (!a0_2) a0_3 a0_4 a0_5 a0_6 a0_7 a0_8 a0_9).bind fun t375 => (some t375)) else (some false)))) else (some false)))) else (some false))) else (some false))))))) else (some t362))) else (some false))
theorem miradorlaw13_FormatOrder.mono : ∀ a0 a1 a2 a3 a4 a5 a6 a7 a8 a9 a10 k, LeO (miradorlaw13_FormatOrder.f k a0 a1 a2 a3 a4 a5 a6 a7 a8 a9 a10) (miradorlaw13_FormatOrder.f (k + 1) a0 a1 a2 a3 a4 a5 a6 a7 a8 a9 a10) := by
  intro a0 a1 a2 a3 a4 a5 a6 a7 a8 a9 a10 k
  unfold miradorlaw13_FormatOrder.f
  repeat' first
      | (with_reducible exact format_CPut.mono _ _ _ _ _ _ _ _ _ _ _ _)
      | (with_reducible exact format_Put.mono _ _ _ _ _ _ _ _ _ _ _ _)
      | (with_reducible exact miradorref01_Turned.mono _ _)
      | (with_reducible exact LeO.refl _)
      | (with_reducible exact LeO.none _)
      | (with_reducible refine LeO.ite ?_ ?_)
      | (with_reducible refine LeO.bind ?_ (fun _ => ?_))
      | exact format_CPut.mono _ _ _ _ _ _ _ _ _ _ _ _
      | exact format_Put.mono _ _ _ _ _ _ _ _ _ _ _ _
      | exact miradorref01_Turned.mono _ _
      | exact LeO.none _
      | refine LeO.ite ?_ ?_
      | refine LeO.bind ?_ (fun _ => ?_)
def miradorlaw13_FormatOrder.T12 : Bool × List (List Nat × List Nat) := (true, [([], []), ([0], [0]), ([1], [1]), ([1], [1]), ([3, 1, 1], [1, 3]), ([2, 4, 1], [1, 2, 4]), ([1, 5], [1, 5]), ([6, 4], [6]), ([7], [7]), ([7], [7]), ([9, 7, 7], [7, 9]), ([8, 10, 7], [7, 8, 10]), ([7, 11], [7, 11]), ([12, 10], [12]), ([13], [13]), ([13], [13]), ([14, 15, 13, 13], [13, 14, 15]), ([13], [13]), ([13], [13]), ([17, 18, 16, 13], [13, 17, 18]), ([16, 19, 13], [13, 16, 19]), ([13, 20], [13, 20]), ([21, 19], [21]), ([22], [22]), ([22], [22]), ([23, 24, 22, 22], [22, 23, 24]), ([22], [22]), ([22], [22]), ([26, 27, 25, 22], [22, 26, 27]), ([25, 28, 22], [22, 25, 28]), ([22, 29], [22, 29]), ([30, 28], [30]), ([31], [31]), ([32, 31, 31], [31, 32]), ([31, 33], [31, 33]), ([34, 33, 0, 1, 2, 3, 4, 5, 6, 7, 8, 9, 10, 11, 12, 13, 14, 15, 16, 17, 18, 19, 20, 21, 22, 23, 24, 25, 26, 27, 28, 29, 30, 31, 32, 33, 34], [34])])
def miradorlaw13_FormatOrder.B12 : List Nat := [0, 1, 3, 3, 11, 31, 63, 127, 255, 255, 767, 2047, 4095, 8191, 16383, 16383, 65535, 16383, 16383, 524287, 1048575, 2097151, 4194303, 8388607, 8388607, 33554431, 8388607, 8388607, 268435455, 536870911, 1073741823, 2147483647, 4294967295, 8589934591, 17179869183, 34359738367]
theorem miradorlaw13_FormatOrder.tab12 : rtab .any (opsOf Try.f6 12) = miradorlaw13_FormatOrder.T12 := by kernel_rfl
theorem miradorlaw13_FormatOrder.bits12 : waitsOk miradorlaw13_FormatOrder.T12.2 miradorlaw13_FormatOrder.B12 = true := by kernel_rfl
set_option maxHeartbeats 8000000 in
set_option maxRecDepth 100000 in
theorem miradorlaw13_FormatOrder.calls1 (k : Nat) (a0_0 : Int) (a0_1 : Int) (a0_2 : Bool) (a0_3 : Bool) (a0_4 : Int) (a0_5 : Int) (a0_6 : Int) (a0_7 : Int) (a0_8 : Int) (a0_9 : Int) (a1 : Int) (r : Bool) (w : World) (hr_ : r = true) (h : miradorlaw13_FormatOrder.f k a0_0 a0_1 a0_2 a0_3 a0_4 a0_5 a0_6 a0_7 a0_8 a0_9 a1 = some r) :
    Calls Try.prog 6 #[.agg #[.int .i64 a0_0, .int .i64 a0_1, .bool a0_2, .bool a0_3, .int .i64 a0_4, .int .i64 a0_5, .int .i64 a0_6, .int .i64 a0_7, .int .i64 a0_8, .int .i64 a0_9], .int .i64 a1] w fun e w' => e = .returned (.bool r) ∧ Below w.heap.size w w' := by
  have hu23 := Try.underlying23
  have HB := Aside0.mk (Below.refl w.heap.size w)
  have H : ((miradorlaw13_works.f).bind fun t362 => (if t362 = true then ((format_Valid.f a0_0 a0_1 a0_2 a0_3 a0_4 a0_5 a0_6 a0_7 a0_8 a0_9).bind fun t363 => (if t363 = true then ((format_Put.f k a0_0 a0_1 a0_2 a0_3 a0_4 a0_5 a0_6 a0_7 a0_8 a0_9 a1).bind fun t365 => ((format_Put.f k a0_0 a0_1 (!a0_2) a0_3 a0_4 a0_5 a0_6 a0_7 a0_8 a0_9 a1).bind fun t366 => ((format_CPut.f k a0_0 a0_1 a0_2 a0_3 a0_4 a0_5 a0_6 a0_7 a0_8 a0_9 a1).bind fun t367 => ((format_CPut.f k a0_0 a0_1 (!a0_2) a0_3 a0_4 a0_5 a0_6 a0_7 a0_8 a0_9 a1).bind fun t368 => ((miradorref01_Turned.f k t366).bind fun t369 => (if t365.toList = t369.toList then ((miradorref01_Turned.f k t368).bind fun t370 => (if t367.toList = t370.toList then ((format_Value.f a0_0 a0_1 a0_2 a0_3 a0_4 a0_5 a0_6 a0_7 a0_8 a0_9 a1).bind fun t371 => ((format_Value.f a0_0 a0_1 (!a0_2) a0_3 a0_4 a0_5 a0_6 a0_7 a0_8 a0_9 a1).bind fun t372 => (if t371 = t372 then ((format_Colour.f a0_0 a0_1 a0_2 a0_3 a0_4 a0_5 a0_6 a0_7 a0_8 a0_9 a1).bind fun t373 => ((format_Colour.f a0_0 a0_1 (!a0_2) a0_3 a0_4 a0_5 a0_6 a0_7 a0_8 a0_9 a1).bind fun t374 => (if t373 = t374 then ((format_Valid.f a0_0 a0_1 (!a0_2) a0_3 a0_4 a0_5 a0_6 a0_7 a0_8 a0_9).bind fun t375 => (some t375)) else (some false)))) else (some false)))) else (some false))) else (some false))))))) else (some t362))) else (some false))) = some r := h
  clear h
  have HRT := Aside0.mk hr_
  clear hr_
  replace H := Option.bind_eq_some_iff.mp H
  obtain ⟨t362, A30, H⟩ := H
  replace H : (if t362 = true then ((format_Valid.f a0_0 a0_1 a0_2 a0_3 a0_4 a0_5 a0_6 a0_7 a0_8 a0_9).bind fun t363 => (if t363 = true then ((format_Put.f k a0_0 a0_1 a0_2 a0_3 a0_4 a0_5 a0_6 a0_7 a0_8 a0_9 a1).bind fun t365 => ((format_Put.f k a0_0 a0_1 (!a0_2) a0_3 a0_4 a0_5 a0_6 a0_7 a0_8 a0_9 a1).bind fun t366 => ((format_CPut.f k a0_0 a0_1 a0_2 a0_3 a0_4 a0_5 a0_6 a0_7 a0_8 a0_9 a1).bind fun t367 => ((format_CPut.f k a0_0 a0_1 (!a0_2) a0_3 a0_4 a0_5 a0_6 a0_7 a0_8 a0_9 a1).bind fun t368 => ((miradorref01_Turned.f k t366).bind fun t369 => (if t365.toList = t369.toList then ((miradorref01_Turned.f k t368).bind fun t370 => (if t367.toList = t370.toList then ((format_Value.f a0_0 a0_1 a0_2 a0_3 a0_4 a0_5 a0_6 a0_7 a0_8 a0_9 a1).bind fun t371 => ((format_Value.f a0_0 a0_1 (!a0_2) a0_3 a0_4 a0_5 a0_6 a0_7 a0_8 a0_9 a1).bind fun t372 => (if t371 = t372 then ((format_Colour.f a0_0 a0_1 a0_2 a0_3 a0_4 a0_5 a0_6 a0_7 a0_8 a0_9 a1).bind fun t373 => ((format_Colour.f a0_0 a0_1 (!a0_2) a0_3 a0_4 a0_5 a0_6 a0_7 a0_8 a0_9 a1).bind fun t374 => (if t373 = t374 then ((format_Valid.f a0_0 a0_1 (!a0_2) a0_3 a0_4 a0_5 a0_6 a0_7 a0_8 a0_9).bind fun t375 => (some t375)) else (some false)))) else (some false)))) else (some false))) else (some false))))))) else (some t362))) else (some false)) = some r := H
  have A3 := Aside0.mk A30
  clear A30
  by_cases c4 : t362 = true
  · subst c4
    have H1 : ((format_Valid.f a0_0 a0_1 a0_2 a0_3 a0_4 a0_5 a0_6 a0_7 a0_8 a0_9).bind fun t363 => (if t363 = true then ((format_Put.f k a0_0 a0_1 a0_2 a0_3 a0_4 a0_5 a0_6 a0_7 a0_8 a0_9 a1).bind fun t365 => ((format_Put.f k a0_0 a0_1 (!a0_2) a0_3 a0_4 a0_5 a0_6 a0_7 a0_8 a0_9 a1).bind fun t366 => ((format_CPut.f k a0_0 a0_1 a0_2 a0_3 a0_4 a0_5 a0_6 a0_7 a0_8 a0_9 a1).bind fun t367 => ((format_CPut.f k a0_0 a0_1 (!a0_2) a0_3 a0_4 a0_5 a0_6 a0_7 a0_8 a0_9 a1).bind fun t368 => ((miradorref01_Turned.f k t366).bind fun t369 => (if t365.toList = t369.toList then ((miradorref01_Turned.f k t368).bind fun t370 => (if t367.toList = t370.toList then ((format_Value.f a0_0 a0_1 a0_2 a0_3 a0_4 a0_5 a0_6 a0_7 a0_8 a0_9 a1).bind fun t371 => ((format_Value.f a0_0 a0_1 (!a0_2) a0_3 a0_4 a0_5 a0_6 a0_7 a0_8 a0_9 a1).bind fun t372 => (if t371 = t372 then ((format_Colour.f a0_0 a0_1 a0_2 a0_3 a0_4 a0_5 a0_6 a0_7 a0_8 a0_9 a1).bind fun t373 => ((format_Colour.f a0_0 a0_1 (!a0_2) a0_3 a0_4 a0_5 a0_6 a0_7 a0_8 a0_9 a1).bind fun t374 => (if t373 = t374 then ((format_Valid.f a0_0 a0_1 (!a0_2) a0_3 a0_4 a0_5 a0_6 a0_7 a0_8 a0_9).bind fun t375 => (some t375)) else (some false)))) else (some false)))) else (some false))) else (some false))))))) else (some true))) = some r := by rw [if_pos rfl] at H; exact H
    clear H
    have H := H1
    clear H1
    replace H := Option.bind_eq_some_iff.mp H
    obtain ⟨t363, A50, H⟩ := H
    replace H : (if t363 = true then ((format_Put.f k a0_0 a0_1 a0_2 a0_3 a0_4 a0_5 a0_6 a0_7 a0_8 a0_9 a1).bind fun t365 => ((format_Put.f k a0_0 a0_1 (!a0_2) a0_3 a0_4 a0_5 a0_6 a0_7 a0_8 a0_9 a1).bind fun t366 => ((format_CPut.f k a0_0 a0_1 a0_2 a0_3 a0_4 a0_5 a0_6 a0_7 a0_8 a0_9 a1).bind fun t367 => ((format_CPut.f k a0_0 a0_1 (!a0_2) a0_3 a0_4 a0_5 a0_6 a0_7 a0_8 a0_9 a1).bind fun t368 => ((miradorref01_Turned.f k t366).bind fun t369 => (if t365.toList = t369.toList then ((miradorref01_Turned.f k t368).bind fun t370 => (if t367.toList = t370.toList then ((format_Value.f a0_0 a0_1 a0_2 a0_3 a0_4 a0_5 a0_6 a0_7 a0_8 a0_9 a1).bind fun t371 => ((format_Value.f a0_0 a0_1 (!a0_2) a0_3 a0_4 a0_5 a0_6 a0_7 a0_8 a0_9 a1).bind fun t372 => (if t371 = t372 then ((format_Colour.f a0_0 a0_1 a0_2 a0_3 a0_4 a0_5 a0_6 a0_7 a0_8 a0_9 a1).bind fun t373 => ((format_Colour.f a0_0 a0_1 (!a0_2) a0_3 a0_4 a0_5 a0_6 a0_7 a0_8 a0_9 a1).bind fun t374 => (if t373 = t374 then ((format_Valid.f a0_0 a0_1 (!a0_2) a0_3 a0_4 a0_5 a0_6 a0_7 a0_8 a0_9).bind fun t375 => (some t375)) else (some false)))) else (some false)))) else (some false))) else (some false))))))) else (some true)) = some r := H
    have A5 := Aside0.mk A50
    clear A50
    by_cases c6 : t363 = true
    · subst c6
      have H1 : ((format_Put.f k a0_0 a0_1 a0_2 a0_3 a0_4 a0_5 a0_6 a0_7 a0_8 a0_9 a1).bind fun t365 => ((format_Put.f k a0_0 a0_1 (!a0_2) a0_3 a0_4 a0_5 a0_6 a0_7 a0_8 a0_9 a1).bind fun t366 => ((format_CPut.f k a0_0 a0_1 a0_2 a0_3 a0_4 a0_5 a0_6 a0_7 a0_8 a0_9 a1).bind fun t367 => ((format_CPut.f k a0_0 a0_1 (!a0_2) a0_3 a0_4 a0_5 a0_6 a0_7 a0_8 a0_9 a1).bind fun t368 => ((miradorref01_Turned.f k t366).bind fun t369 => (if t365.toList = t369.toList then ((miradorref01_Turned.f k t368).bind fun t370 => (if t367.toList = t370.toList then ((format_Value.f a0_0 a0_1 a0_2 a0_3 a0_4 a0_5 a0_6 a0_7 a0_8 a0_9 a1).bind fun t371 => ((format_Value.f a0_0 a0_1 (!a0_2) a0_3 a0_4 a0_5 a0_6 a0_7 a0_8 a0_9 a1).bind fun t372 => (if t371 = t372 then ((format_Colour.f a0_0 a0_1 a0_2 a0_3 a0_4 a0_5 a0_6 a0_7 a0_8 a0_9 a1).bind fun t373 => ((format_Colour.f a0_0 a0_1 (!a0_2) a0_3 a0_4 a0_5 a0_6 a0_7 a0_8 a0_9 a1).bind fun t374 => (if t373 = t374 then ((format_Valid.f a0_0 a0_1 (!a0_2) a0_3 a0_4 a0_5 a0_6 a0_7 a0_8 a0_9).bind fun t375 => (some t375)) else (some false)))) else (some false)))) else (some false))) else (some false))))))) = some r := by rw [if_pos rfl] at H; exact H
      clear H
      have H := H1
      clear H1
      replace H := Option.bind_eq_some_iff.mp H
      obtain ⟨t365, A70, H⟩ := H
      replace H : ((format_Put.f k a0_0 a0_1 (!a0_2) a0_3 a0_4 a0_5 a0_6 a0_7 a0_8 a0_9 a1).bind fun t366 => ((format_CPut.f k a0_0 a0_1 a0_2 a0_3 a0_4 a0_5 a0_6 a0_7 a0_8 a0_9 a1).bind fun t367 => ((format_CPut.f k a0_0 a0_1 (!a0_2) a0_3 a0_4 a0_5 a0_6 a0_7 a0_8 a0_9 a1).bind fun t368 => ((miradorref01_Turned.f k t366).bind fun t369 => (if t365.toList = t369.toList then ((miradorref01_Turned.f k t368).bind fun t370 => (if t367.toList = t370.toList then ((format_Value.f a0_0 a0_1 a0_2 a0_3 a0_4 a0_5 a0_6 a0_7 a0_8 a0_9 a1).bind fun t371 => ((format_Value.f a0_0 a0_1 (!a0_2) a0_3 a0_4 a0_5 a0_6 a0_7 a0_8 a0_9 a1).bind fun t372 => (if t371 = t372 then ((format_Colour.f a0_0 a0_1 a0_2 a0_3 a0_4 a0_5 a0_6 a0_7 a0_8 a0_9 a1).bind fun t373 => ((format_Colour.f a0_0 a0_1 (!a0_2) a0_3 a0_4 a0_5 a0_6 a0_7 a0_8 a0_9 a1).bind fun t374 => (if t373 = t374 then ((format_Valid.f a0_0 a0_1 (!a0_2) a0_3 a0_4 a0_5 a0_6 a0_7 a0_8 a0_9).bind fun t375 => (some t375)) else (some false)))) else (some false)))) else (some false))) else (some false)))))) = some r := H
      have A7 := Aside0.mk A70
      clear A70
      replace H := Option.bind_eq_some_iff.mp H
      obtain ⟨t366, A80, H⟩ := H
      replace H : ((format_CPut.f k a0_0 a0_1 a0_2 a0_3 a0_4 a0_5 a0_6 a0_7 a0_8 a0_9 a1).bind fun t367 => ((format_CPut.f k a0_0 a0_1 (!a0_2) a0_3 a0_4 a0_5 a0_6 a0_7 a0_8 a0_9 a1).bind fun t368 => ((miradorref01_Turned.f k t366).bind fun t369 => (if t365.toList = t369.toList then ((miradorref01_Turned.f k t368).bind fun t370 => (if t367.toList = t370.toList then ((format_Value.f a0_0 a0_1 a0_2 a0_3 a0_4 a0_5 a0_6 a0_7 a0_8 a0_9 a1).bind fun t371 => ((format_Value.f a0_0 a0_1 (!a0_2) a0_3 a0_4 a0_5 a0_6 a0_7 a0_8 a0_9 a1).bind fun t372 => (if t371 = t372 then ((format_Colour.f a0_0 a0_1 a0_2 a0_3 a0_4 a0_5 a0_6 a0_7 a0_8 a0_9 a1).bind fun t373 => ((format_Colour.f a0_0 a0_1 (!a0_2) a0_3 a0_4 a0_5 a0_6 a0_7 a0_8 a0_9 a1).bind fun t374 => (if t373 = t374 then ((format_Valid.f a0_0 a0_1 (!a0_2) a0_3 a0_4 a0_5 a0_6 a0_7 a0_8 a0_9).bind fun t375 => (some t375)) else (some false)))) else (some false)))) else (some false))) else (some false))))) = some r := H
      have A8 := Aside0.mk A80
      clear A80
      replace H := Option.bind_eq_some_iff.mp H
      obtain ⟨t367, A90, H⟩ := H
      replace H : ((format_CPut.f k a0_0 a0_1 (!a0_2) a0_3 a0_4 a0_5 a0_6 a0_7 a0_8 a0_9 a1).bind fun t368 => ((miradorref01_Turned.f k t366).bind fun t369 => (if t365.toList = t369.toList then ((miradorref01_Turned.f k t368).bind fun t370 => (if t367.toList = t370.toList then ((format_Value.f a0_0 a0_1 a0_2 a0_3 a0_4 a0_5 a0_6 a0_7 a0_8 a0_9 a1).bind fun t371 => ((format_Value.f a0_0 a0_1 (!a0_2) a0_3 a0_4 a0_5 a0_6 a0_7 a0_8 a0_9 a1).bind fun t372 => (if t371 = t372 then ((format_Colour.f a0_0 a0_1 a0_2 a0_3 a0_4 a0_5 a0_6 a0_7 a0_8 a0_9 a1).bind fun t373 => ((format_Colour.f a0_0 a0_1 (!a0_2) a0_3 a0_4 a0_5 a0_6 a0_7 a0_8 a0_9 a1).bind fun t374 => (if t373 = t374 then ((format_Valid.f a0_0 a0_1 (!a0_2) a0_3 a0_4 a0_5 a0_6 a0_7 a0_8 a0_9).bind fun t375 => (some t375)) else (some false)))) else (some false)))) else (some false))) else (some false)))) = some r := H
      have A9 := Aside0.mk A90
      clear A90
      replace H := Option.bind_eq_some_iff.mp H
      obtain ⟨t368, A100, H⟩ := H
      replace H : ((miradorref01_Turned.f k t366).bind fun t369 => (if t365.toList = t369.toList then ((miradorref01_Turned.f k t368).bind fun t370 => (if t367.toList = t370.toList then ((format_Value.f a0_0 a0_1 a0_2 a0_3 a0_4 a0_5 a0_6 a0_7 a0_8 a0_9 a1).bind fun t371 => ((format_Value.f a0_0 a0_1 (!a0_2) a0_3 a0_4 a0_5 a0_6 a0_7 a0_8 a0_9 a1).bind fun t372 => (if t371 = t372 then ((format_Colour.f a0_0 a0_1 a0_2 a0_3 a0_4 a0_5 a0_6 a0_7 a0_8 a0_9 a1).bind fun t373 => ((format_Colour.f a0_0 a0_1 (!a0_2) a0_3 a0_4 a0_5 a0_6 a0_7 a0_8 a0_9 a1).bind fun t374 => (if t373 = t374 then ((format_Valid.f a0_0 a0_1 (!a0_2) a0_3 a0_4 a0_5 a0_6 a0_7 a0_8 a0_9).bind fun t375 => (some t375)) else (some false)))) else (some false)))) else (some false))) else (some false))) = some r := H
      have A10 := Aside0.mk A100
      clear A100
      replace H := Option.bind_eq_some_iff.mp H
      obtain ⟨t369, A110, H⟩ := H
      replace H : (if t365.toList = t369.toList then ((miradorref01_Turned.f k t368).bind fun t370 => (if t367.toList = t370.toList then ((format_Value.f a0_0 a0_1 a0_2 a0_3 a0_4 a0_5 a0_6 a0_7 a0_8 a0_9 a1).bind fun t371 => ((format_Value.f a0_0 a0_1 (!a0_2) a0_3 a0_4 a0_5 a0_6 a0_7 a0_8 a0_9 a1).bind fun t372 => (if t371 = t372 then ((format_Colour.f a0_0 a0_1 a0_2 a0_3 a0_4 a0_5 a0_6 a0_7 a0_8 a0_9 a1).bind fun t373 => ((format_Colour.f a0_0 a0_1 (!a0_2) a0_3 a0_4 a0_5 a0_6 a0_7 a0_8 a0_9 a1).bind fun t374 => (if t373 = t374 then ((format_Valid.f a0_0 a0_1 (!a0_2) a0_3 a0_4 a0_5 a0_6 a0_7 a0_8 a0_9).bind fun t375 => (some t375)) else (some false)))) else (some false)))) else (some false))) else (some false)) = some r := H
      have A11 := Aside0.mk A110
      clear A110
      by_cases c12 : t365.toList = t369.toList
      · rw [if_pos c12] at H
        have c12b0 : (t365.toList == t369.toList) = true := beq_iff_eq.mpr c12
        have c12b1 : (t365.toList != t369.toList) = false := bne_eq_false_iff_eq.mpr c12
        clear c12
        replace H := Option.bind_eq_some_iff.mp H
        obtain ⟨t370, A130, H⟩ := H
        replace H : (if t367.toList = t370.toList then ((format_Value.f a0_0 a0_1 a0_2 a0_3 a0_4 a0_5 a0_6 a0_7 a0_8 a0_9 a1).bind fun t371 => ((format_Value.f a0_0 a0_1 (!a0_2) a0_3 a0_4 a0_5 a0_6 a0_7 a0_8 a0_9 a1).bind fun t372 => (if t371 = t372 then ((format_Colour.f a0_0 a0_1 a0_2 a0_3 a0_4 a0_5 a0_6 a0_7 a0_8 a0_9 a1).bind fun t373 => ((format_Colour.f a0_0 a0_1 (!a0_2) a0_3 a0_4 a0_5 a0_6 a0_7 a0_8 a0_9 a1).bind fun t374 => (if t373 = t374 then ((format_Valid.f a0_0 a0_1 (!a0_2) a0_3 a0_4 a0_5 a0_6 a0_7 a0_8 a0_9).bind fun t375 => (some t375)) else (some false)))) else (some false)))) else (some false)) = some r := H
        have A13 := Aside0.mk A130
        clear A130
        by_cases c14 : t367.toList = t370.toList
        · rw [if_pos c14] at H
          have c14b0 : (t367.toList == t370.toList) = true := beq_iff_eq.mpr c14
          have c14b1 : (t367.toList != t370.toList) = false := bne_eq_false_iff_eq.mpr c14
          clear c14
          replace H := Option.bind_eq_some_iff.mp H
          obtain ⟨t371, A150, H⟩ := H
          replace H : ((format_Value.f a0_0 a0_1 (!a0_2) a0_3 a0_4 a0_5 a0_6 a0_7 a0_8 a0_9 a1).bind fun t372 => (if t371 = t372 then ((format_Colour.f a0_0 a0_1 a0_2 a0_3 a0_4 a0_5 a0_6 a0_7 a0_8 a0_9 a1).bind fun t373 => ((format_Colour.f a0_0 a0_1 (!a0_2) a0_3 a0_4 a0_5 a0_6 a0_7 a0_8 a0_9 a1).bind fun t374 => (if t373 = t374 then ((format_Valid.f a0_0 a0_1 (!a0_2) a0_3 a0_4 a0_5 a0_6 a0_7 a0_8 a0_9).bind fun t375 => (some t375)) else (some false)))) else (some false))) = some r := H
          have A15 := Aside0.mk A150
          clear A150
          replace H := Option.bind_eq_some_iff.mp H
          obtain ⟨t372, A160, H⟩ := H
          replace H : (if t371 = t372 then ((format_Colour.f a0_0 a0_1 a0_2 a0_3 a0_4 a0_5 a0_6 a0_7 a0_8 a0_9 a1).bind fun t373 => ((format_Colour.f a0_0 a0_1 (!a0_2) a0_3 a0_4 a0_5 a0_6 a0_7 a0_8 a0_9 a1).bind fun t374 => (if t373 = t374 then ((format_Valid.f a0_0 a0_1 (!a0_2) a0_3 a0_4 a0_5 a0_6 a0_7 a0_8 a0_9).bind fun t375 => (some t375)) else (some false)))) else (some false)) = some r := H
          have A16 := Aside0.mk A160
          clear A160
          by_cases c17 : t371 = t372
          · rw [if_pos c17] at H
            have c17b0 : (t371 == t372) = true := beq_iff_eq.mpr c17
            have c17b1 : (t371 != t372) = false := bne_eq_false_iff_eq.mpr c17
            clear c17
            replace H := Option.bind_eq_some_iff.mp H
            obtain ⟨t373, A180, H⟩ := H
            replace H : ((format_Colour.f a0_0 a0_1 (!a0_2) a0_3 a0_4 a0_5 a0_6 a0_7 a0_8 a0_9 a1).bind fun t374 => (if t373 = t374 then ((format_Valid.f a0_0 a0_1 (!a0_2) a0_3 a0_4 a0_5 a0_6 a0_7 a0_8 a0_9).bind fun t375 => (some t375)) else (some false))) = some r := H
            have A18 := Aside0.mk A180
            clear A180
            replace H := Option.bind_eq_some_iff.mp H
            obtain ⟨t374, A190, H⟩ := H
            replace H : (if t373 = t374 then ((format_Valid.f a0_0 a0_1 (!a0_2) a0_3 a0_4 a0_5 a0_6 a0_7 a0_8 a0_9).bind fun t375 => (some t375)) else (some false)) = some r := H
            have A19 := Aside0.mk A190
            clear A190
            by_cases c20 : t373 = t374
            · rw [if_pos c20] at H
              have c20b0 : (t373 == t374) = true := beq_iff_eq.mpr c20
              have c20b1 : (t373 != t374) = false := bne_eq_false_iff_eq.mpr c20
              clear c20
              replace H := Option.bind_eq_some_iff.mp H
              obtain ⟨t375, A210, H⟩ := H
              replace H : (some t375) = some r := H
              have A21 := Aside0.mk A210
              clear A210
              obtain rfl := Option.some.inj H
              go_enter Try.func6, Try.ntmps6
              try go_wp2_with (first | ((with_reducible refine gate_dst (N := 2) rfl ?_); refine box_event ?hg (N := 2) ?hd (cs := #[.int .i64 a0_0, .int .i64 a0_1, .bool a0_2, .bool a0_3, .int .i64 a0_4, .int .i64 a0_5, .int .i64 a0_6, .int .i64 a0_7, .int .i64 a0_8, .int .i64 a0_9]) (t := 23) ?hr ?_; (case hd => rfl); (case hg => rfl); (case hr => first | (go_simp; done) | (go_simp; rfl)); intro gb361 hg w22 hbox hb; have n0_ := Aside0.mk (below_step (by repeat (first | (with_reducible first | exact HB.out | apply below_alloc | apply pw_below_drewN | apply below_drew1) | exact HB.out)) hb); have n1_ := Aside0.mk (hbox); have n2_ := Aside0.mk ((by rw [hg]; exact (below_size (by repeat (first | (with_reducible first | exact HB.out | apply below_alloc | apply pw_below_drewN | apply below_drew1) | exact HB.out))) : w.heap.size ≤ gb361)); have n3_ := Aside0.mk ((by rw [hg]; exact (below_size (by repeat (first | (with_reducible first | exact HB.out | apply below_alloc | apply pw_below_drewN | apply below_drew1) | exact HB.out))) : w.heap.size ≤ gb361)); clear HB; have HB := n0_; have BK361 := n1_; have GW361 := n2_; have GE361 := n3_; clear n0_ n1_ n2_ n3_; clear hb hbox hg) | ((with_reducible refine gate_callee (f := 8) rfl ?_); refine goesL_ (some 11) rfl rfl Try.func8 (by kernel_rfl) rfl #[] rfl (by (try simp only [List.map_toArray, List.map_cons, List.map_nil]); first | done | rfl | (simp only [List.length_drop, List.length_take]; rfl)) ?_; (with_reducible refine (miradorlaw13_works.calls  true _ A3.out).mono ?_); rintro e w23 ⟨rfl, hb⟩; refine ⟨_, rfl, ?_⟩; have n0_ := Aside0.mk (blk_below (g := gb361) (o := .cells #[.int .i64 a0_0, .int .i64 a0_1, .bool a0_2, .bool a0_3, .int .i64 a0_4, .int .i64 a0_5, .int .i64 a0_6, .int .i64 a0_7, .int .i64 a0_8, .int .i64 a0_9] 23 (0, 0)) (by (with_reducible repeat (first | refine blk_drewN ?_ _ | refine blk_drew ?_ | refine blk_alloc ?_ _)); exact BK361.out) hb); have n1_ := Aside0.mk (below_step (by repeat (first | (with_reducible first | exact HB.out | apply below_alloc | apply pw_below_drewN | apply below_drew1 | refine below_set ?_ GE361.out) | exact HB.out)) hb); clear BK361; clear HB; have BK361 := n0_; have HB := n1_; clear n0_ n1_; (try clear hb); (try clear hb2); (try clear hk); (try clear hi); have hcz24_0 : w23.cell? ⟨gb361, 0, none⟩ = some (.int .i64 a0_0) := (blk_cell BK361.out 0).trans rfl; have hcz24_1 : w23.cell? ⟨gb361, 1, none⟩ = some (.int .i64 a0_1) := (blk_cell BK361.out 1).trans rfl; have hcz24_2 : w23.cell? ⟨gb361, 2, none⟩ = some (.bool a0_2) := (blk_cell BK361.out 2).trans rfl; have hcz24_3 : w23.cell? ⟨gb361, 3, none⟩ = some (.bool a0_3) := (blk_cell BK361.out 3).trans rfl; have hcz24_4 : w23.cell? ⟨gb361, 4, none⟩ = some (.int .i64 a0_4) := (blk_cell BK361.out 4).trans rfl; have hcz24_5 : w23.cell? ⟨gb361, 5, none⟩ = some (.int .i64 a0_5) := (blk_cell BK361.out 5).trans rfl; have hcz24_6 : w23.cell? ⟨gb361, 6, none⟩ = some (.int .i64 a0_6) := (blk_cell BK361.out 6).trans rfl; have hcz24_7 : w23.cell? ⟨gb361, 7, none⟩ = some (.int .i64 a0_7) := (blk_cell BK361.out 7).trans rfl; have hcz24_8 : w23.cell? ⟨gb361, 8, none⟩ = some (.int .i64 a0_8) := (blk_cell BK361.out 8).trans rfl; have hcz24_9 : w23.cell? ⟨gb361, 9, none⟩ = some (.int .i64 a0_9) := (blk_cell BK361.out 9).trans rfl; have hfz24_0 := blk_frozen BK361.out 0; have hfz24_1 := blk_frozen BK361.out 1; have hfz24_2 := blk_frozen BK361.out 2; have hfz24_3 := blk_frozen BK361.out 3; have hfz24_4 := blk_frozen BK361.out 4; have hfz24_5 := blk_frozen BK361.out 5; have hfz24_6 := blk_frozen BK361.out 6; have hfz24_7 := blk_frozen BK361.out 7; have hfz24_8 := blk_frozen BK361.out 8; have hfz24_9 := blk_frozen BK361.out 9) | ((with_reducible refine gate_callee (f := 11) rfl ?_); refine goesL_ (some 15) rfl rfl Try.func11 (by kernel_rfl) rfl #[.agg #[.int .i64 a0_0, .int .i64 a0_1, .bool a0_2, .bool a0_3, .int .i64 a0_4, .int .i64 a0_5, .int .i64 a0_6, .int .i64 a0_7, .int .i64 a0_8, .int .i64 a0_9]] rfl (by (try simp only [List.map_toArray, List.map_cons, List.map_nil]); first | done | rfl | (simp only [List.length_drop, List.length_take]; rfl)) ?_; (with_reducible refine (format_Valid.calls a0_0 a0_1 a0_2 a0_3 a0_4 a0_5 a0_6 a0_7 a0_8 a0_9 true _ A5.out).mono ?_); rintro e w25 ⟨rfl, hb⟩; refine ⟨_, rfl, ?_⟩; have n0_ := Aside0.mk (blk_below (g := gb361) (o := .cells #[.int .i64 a0_0, .int .i64 a0_1, .bool a0_2, .bool a0_3, .int .i64 a0_4, .int .i64 a0_5, .int .i64 a0_6, .int .i64 a0_7, .int .i64 a0_8, .int .i64 a0_9] 23 (0, 0)) (by (with_reducible repeat (first | refine blk_drewN ?_ _ | refine blk_drew ?_ | refine blk_alloc ?_ _)); exact BK361.out) hb); have n1_ := Aside0.mk (below_step (by repeat (first | (with_reducible first | exact HB.out | apply below_alloc | apply pw_below_drewN | apply below_drew1 | refine below_set ?_ GE361.out) | exact HB.out)) hb); clear BK361; clear HB; have BK361 := n0_; have HB := n1_; clear n0_ n1_; (try clear hb); (try clear hb2); (try clear hk); (try clear hi); have hcz26_0 : w25.cell? ⟨gb361, 0, none⟩ = some (.int .i64 a0_0) := (blk_cell BK361.out 0).trans rfl; have hcz26_1 : w25.cell? ⟨gb361, 1, none⟩ = some (.int .i64 a0_1) := (blk_cell BK361.out 1).trans rfl; have hcz26_2 : w25.cell? ⟨gb361, 2, none⟩ = some (.bool a0_2) := (blk_cell BK361.out 2).trans rfl; have hcz26_3 : w25.cell? ⟨gb361, 3, none⟩ = some (.bool a0_3) := (blk_cell BK361.out 3).trans rfl; have hcz26_4 : w25.cell? ⟨gb361, 4, none⟩ = some (.int .i64 a0_4) := (blk_cell BK361.out 4).trans rfl; have hcz26_5 : w25.cell? ⟨gb361, 5, none⟩ = some (.int .i64 a0_5) := (blk_cell BK361.out 5).trans rfl; have hcz26_6 : w25.cell? ⟨gb361, 6, none⟩ = some (.int .i64 a0_6) := (blk_cell BK361.out 6).trans rfl; have hcz26_7 : w25.cell? ⟨gb361, 7, none⟩ = some (.int .i64 a0_7) := (blk_cell BK361.out 7).trans rfl; have hcz26_8 : w25.cell? ⟨gb361, 8, none⟩ = some (.int .i64 a0_8) := (blk_cell BK361.out 8).trans rfl; have hcz26_9 : w25.cell? ⟨gb361, 9, none⟩ = some (.int .i64 a0_9) := (blk_cell BK361.out 9).trans rfl; have hfz26_0 := blk_frozen BK361.out 0; have hfz26_1 := blk_frozen BK361.out 1; have hfz26_2 := blk_frozen BK361.out 2; have hfz26_3 := blk_frozen BK361.out 3; have hfz26_4 := blk_frozen BK361.out 4; have hfz26_5 := blk_frozen BK361.out 5; have hfz26_6 := blk_frozen BK361.out 6; have hfz26_7 := blk_frozen BK361.out 7; have hfz26_8 := blk_frozen BK361.out 8; have hfz26_9 := blk_frozen BK361.out 9) | ((with_reducible refine gate_dst (N := 6) rfl ?_); refine box_event ?hg (N := 6) ?hd (cs := #[.int .i64 0, .int .i64 0, .bool false, .bool false, .int .i64 0, .int .i64 0, .int .i64 0, .int .i64 0, .int .i64 0, .int .i64 0]) (t := 23) ?hr ?_; (case hd => rfl); (case hg => rfl); (case hr => first | (go_simp; done) | (go_simp; rfl)); intro gb364 hg w27 hbox hb; have n0_ := Aside0.mk (blk_below (g := gb361) (o := .cells #[.int .i64 a0_0, .int .i64 a0_1, .bool a0_2, .bool a0_3, .int .i64 a0_4, .int .i64 a0_5, .int .i64 a0_6, .int .i64 a0_7, .int .i64 a0_8, .int .i64 a0_9] 23 (0, 0)) (by (with_reducible repeat (first | refine blk_drewN ?_ _ | refine blk_drew ?_ | refine blk_alloc ?_ _)); exact BK361.out) hb); have n1_ := Aside0.mk (below_step (by repeat (first | (with_reducible first | exact HB.out | apply below_alloc | apply pw_below_drewN | apply below_drew1 | refine below_set ?_ GE361.out) | exact HB.out)) hb); have n2_ := Aside0.mk (hbox); have n3_ := Aside0.mk ((by rw [hg]; exact (below_size (by repeat (first | (with_reducible first | exact HB.out | apply below_alloc | apply pw_below_drewN | apply below_drew1 | refine below_set ?_ GE361.out) | exact HB.out))) : w.heap.size ≤ gb364)); have n4_ := Aside0.mk ((by rw [hg]; exact (below_size (by repeat (first | (with_reducible first | exact HB.out | apply below_alloc | apply pw_below_drewN | apply below_drew1 | refine below_set ?_ GE361.out) | exact HB.out))) : w.heap.size ≤ gb364)); have n5_ := Aside0.mk ((by rw [hg]; exact Nat.ne_of_lt (blk_lt (g := gb361) (o := .cells #[.int .i64 a0_0, .int .i64 a0_1, .bool a0_2, .bool a0_3, .int .i64 a0_4, .int .i64 a0_5, .int .i64 a0_6, .int .i64 a0_7, .int .i64 a0_8, .int .i64 a0_9] 23 (0, 0)) (by (with_reducible repeat (first | refine blk_drewN ?_ _ | refine blk_drew ?_ | refine blk_alloc ?_ _)); exact BK361.out)) : gb361 ≠ gb364)); have n6_ := Aside0.mk ((by rw [hg]; exact Nat.ne_of_gt (blk_lt (g := gb361) (o := .cells #[.int .i64 a0_0, .int .i64 a0_1, .bool a0_2, .bool a0_3, .int .i64 a0_4, .int .i64 a0_5, .int .i64 a0_6, .int .i64 a0_7, .int .i64 a0_8, .int .i64 a0_9] 23 (0, 0)) (by (with_reducible repeat (first | refine blk_drewN ?_ _ | refine blk_drew ?_ | refine blk_alloc ?_ _)); exact BK361.out)) : gb364 ≠ gb361)); clear BK361; clear HB; have BK361 := n0_; have HB := n1_; have BK364 := n2_; have GW364 := n3_; have GE364 := n4_; have NB361_364 := n5_; have NB364_361 := n6_; clear n0_ n1_ n2_ n3_ n4_ n5_ n6_; clear hb hbox hg; have hnb28 := NB364_361.out; have hnc28 := NB361_364.out; have hcz29_0 : w27.cell? ⟨gb364, 0, none⟩ = some (.int .i64 0) := (blk_cell BK364.out 0).trans rfl; have hcz29_1 : w27.cell? ⟨gb364, 1, none⟩ = some (.int .i64 0) := (blk_cell BK364.out 1).trans rfl; have hcz29_2 : w27.cell? ⟨gb364, 2, none⟩ = some (.bool false) := (blk_cell BK364.out 2).trans rfl; have hcz29_3 : w27.cell? ⟨gb364, 3, none⟩ = some (.bool false) := (blk_cell BK364.out 3).trans rfl; have hcz29_4 : w27.cell? ⟨gb364, 4, none⟩ = some (.int .i64 0) := (blk_cell BK364.out 4).trans rfl; have hcz29_5 : w27.cell? ⟨gb364, 5, none⟩ = some (.int .i64 0) := (blk_cell BK364.out 5).trans rfl; have hcz29_6 : w27.cell? ⟨gb364, 6, none⟩ = some (.int .i64 0) := (blk_cell BK364.out 6).trans rfl; have hcz29_7 : w27.cell? ⟨gb364, 7, none⟩ = some (.int .i64 0) := (blk_cell BK364.out 7).trans rfl; have hcz29_8 : w27.cell? ⟨gb364, 8, none⟩ = some (.int .i64 0) := (blk_cell BK364.out 8).trans rfl; have hcz29_9 : w27.cell? ⟨gb364, 9, none⟩ = some (.int .i64 0) := (blk_cell BK364.out 9).trans rfl; have hfz29_0 := blk_frozen BK364.out 0; have hfz29_1 := blk_frozen BK364.out 1; have hfz29_2 := blk_frozen BK364.out 2; have hfz29_3 := blk_frozen BK364.out 3; have hfz29_4 := blk_frozen BK364.out 4; have hfz29_5 := blk_frozen BK364.out 5; have hfz29_6 := blk_frozen BK364.out 6; have hfz29_7 := blk_frozen BK364.out 7; have hfz29_8 := blk_frozen BK364.out 8; have hfz29_9 := blk_frozen BK364.out 9; have hcz30_0 : w27.cell? ⟨gb361, 0, none⟩ = some (.int .i64 a0_0) := (blk_cell BK361.out 0).trans rfl; have hcz30_1 : w27.cell? ⟨gb361, 1, none⟩ = some (.int .i64 a0_1) := (blk_cell BK361.out 1).trans rfl; have hcz30_2 : w27.cell? ⟨gb361, 2, none⟩ = some (.bool a0_2) := (blk_cell BK361.out 2).trans rfl; have hcz30_3 : w27.cell? ⟨gb361, 3, none⟩ = some (.bool a0_3) := (blk_cell BK361.out 3).trans rfl; have hcz30_4 : w27.cell? ⟨gb361, 4, none⟩ = some (.int .i64 a0_4) := (blk_cell BK361.out 4).trans rfl; have hcz30_5 : w27.cell? ⟨gb361, 5, none⟩ = some (.int .i64 a0_5) := (blk_cell BK361.out 5).trans rfl; have hcz30_6 : w27.cell? ⟨gb361, 6, none⟩ = some (.int .i64 a0_6) := (blk_cell BK361.out 6).trans rfl; have hcz30_7 : w27.cell? ⟨gb361, 7, none⟩ = some (.int .i64 a0_7) := (blk_cell BK361.out 7).trans rfl; have hcz30_8 : w27.cell? ⟨gb361, 8, none⟩ = some (.int .i64 a0_8) := (blk_cell BK361.out 8).trans rfl; have hcz30_9 : w27.cell? ⟨gb361, 9, none⟩ = some (.int .i64 a0_9) := (blk_cell BK361.out 9).trans rfl; have hfz30_0 := blk_frozen BK361.out 0; have hfz30_1 := blk_frozen BK361.out 1; have hfz30_2 := blk_frozen BK361.out 2; have hfz30_3 := blk_frozen BK361.out 3; have hfz30_4 := blk_frozen BK361.out 4; have hfz30_5 := blk_frozen BK361.out 5; have hfz30_6 := blk_frozen BK361.out 6; have hfz30_7 := blk_frozen BK361.out 7; have hfz30_8 := blk_frozen BK361.out 8; have hfz30_9 := blk_frozen BK361.out 9) | ((with_reducible refine gate_callee (f := 24) rfl ?_); refine goesL_ (some 25) rfl rfl Try.func24 (by kernel_rfl) rfl #[.agg #[.int .i64 a0_0, .int .i64 a0_1, .bool a0_2, .bool a0_3, .int .i64 a0_4, .int .i64 a0_5, .int .i64 a0_6, .int .i64 a0_7, .int .i64 a0_8, .int .i64 a0_9], .int .i64 a1] rfl (by (try simp only [List.map_toArray, List.map_cons, List.map_nil]); first | done | rfl | (simp only [List.length_drop, List.length_take]; rfl)) ?_; (with_reducible refine (format_Put.calls k a0_0 a0_1 a0_2 a0_3 a0_4 a0_5 a0_6 a0_7 a0_8 a0_9 a1 t365 _ A7.out).mono ?_); rintro e w31 ⟨rfl, hb⟩; refine ⟨_, rfl, ?_⟩; have n0_ := Aside0.mk (blk_below (g := gb361) (o := .cells #[.int .i64 a0_0, .int .i64 a0_1, .bool a0_2, .bool a0_3, .int .i64 a0_4, .int .i64 a0_5, .int .i64 a0_6, .int .i64 a0_7, .int .i64 a0_8, .int .i64 a0_9] 23 (0, 0)) (by (with_reducible repeat (first | refine blk_drewN ?_ _ | refine blk_drew ?_ | refine blk_alloc ?_ _)); refine blk_far ?_ NB361_364.out _; (with_reducible repeat (first | refine blk_drewN ?_ _ | refine blk_drew ?_ | refine blk_alloc ?_ _)); refine blk_far ?_ NB361_364.out _; (with_reducible repeat (first | refine blk_drewN ?_ _ | refine blk_drew ?_ | refine blk_alloc ?_ _)); refine blk_far ?_ NB361_364.out _; (with_reducible repeat (first | refine blk_drewN ?_ _ | refine blk_drew ?_ | refine blk_alloc ?_ _)); refine blk_far ?_ NB361_364.out _; (with_reducible repeat (first | refine blk_drewN ?_ _ | refine blk_drew ?_ | refine blk_alloc ?_ _)); refine blk_far ?_ NB361_364.out _; (with_reducible repeat (first | refine blk_drewN ?_ _ | refine blk_drew ?_ | refine blk_alloc ?_ _)); refine blk_far ?_ NB361_364.out _; (with_reducible repeat (first | refine blk_drewN ?_ _ | refine blk_drew ?_ | refine blk_alloc ?_ _)); refine blk_far ?_ NB361_364.out _; (with_reducible repeat (first | refine blk_drewN ?_ _ | refine blk_drew ?_ | refine blk_alloc ?_ _)); refine blk_far ?_ NB361_364.out _; (with_reducible repeat (first | refine blk_drewN ?_ _ | refine blk_drew ?_ | refine blk_alloc ?_ _)); refine blk_far ?_ NB361_364.out _; (with_reducible repeat (first | refine blk_drewN ?_ _ | refine blk_drew ?_ | refine blk_alloc ?_ _)); refine blk_far ?_ NB361_364.out _; (with_reducible repeat (first | refine blk_drewN ?_ _ | refine blk_drew ?_ | refine blk_alloc ?_ _)); refine blk_far ?_ NB361_364.out _; (with_reducible repeat (first | refine blk_drewN ?_ _ | refine blk_drew ?_ | refine blk_alloc ?_ _)); exact BK361.out) hb); have n1_ := Aside0.mk (blk_below (g := gb364) (o := .cells #[.int .i64 a0_0, .int .i64 a0_1, .bool (!a0_2), .bool a0_3, .int .i64 a0_4, .int .i64 a0_5, .int .i64 a0_6, .int .i64 a0_7, .int .i64 a0_8, .int .i64 a0_9] 23 (0, 0)) (by (with_reducible repeat (first | refine blk_drewN ?_ _ | refine blk_drew ?_ | refine blk_alloc ?_ _)); refine blk_put (cs := #[.int .i64 a0_0, .int .i64 a0_1, .bool a0_2, .bool a0_3, .int .i64 a0_4, .int .i64 a0_5, .int .i64 a0_6, .int .i64 a0_7, .int .i64 a0_8, .int .i64 a0_9]) ?_ 2 _ rfl; (with_reducible repeat (first | refine blk_drewN ?_ _ | refine blk_drew ?_ | refine blk_alloc ?_ _)); refine blk_put (cs := #[.int .i64 a0_0, .int .i64 a0_1, .bool a0_2, .bool a0_3, .int .i64 a0_4, .int .i64 a0_5, .int .i64 a0_6, .int .i64 a0_7, .int .i64 a0_8, .int .i64 0]) ?_ 9 _ rfl; (with_reducible repeat (first | refine blk_drewN ?_ _ | refine blk_drew ?_ | refine blk_alloc ?_ _)); refine blk_put (cs := #[.int .i64 a0_0, .int .i64 a0_1, .bool a0_2, .bool a0_3, .int .i64 a0_4, .int .i64 a0_5, .int .i64 a0_6, .int .i64 a0_7, .int .i64 0, .int .i64 0]) ?_ 8 _ rfl; (with_reducible repeat (first | refine blk_drewN ?_ _ | refine blk_drew ?_ | refine blk_alloc ?_ _)); refine blk_put (cs := #[.int .i64 a0_0, .int .i64 a0_1, .bool a0_2, .bool a0_3, .int .i64 a0_4, .int .i64 a0_5, .int .i64 a0_6, .int .i64 0, .int .i64 0, .int .i64 0]) ?_ 7 _ rfl; (with_reducible repeat (first | refine blk_drewN ?_ _ | refine blk_drew ?_ | refine blk_alloc ?_ _)); refine blk_put (cs := #[.int .i64 a0_0, .int .i64 a0_1, .bool a0_2, .bool a0_3, .int .i64 a0_4, .int .i64 a0_5, .int .i64 0, .int .i64 0, .int .i64 0, .int .i64 0]) ?_ 6 _ rfl; (with_reducible repeat (first | refine blk_drewN ?_ _ | refine blk_drew ?_ | refine blk_alloc ?_ _)); refine blk_put (cs := #[.int .i64 a0_0, .int .i64 a0_1, .bool a0_2, .bool a0_3, .int .i64 a0_4, .int .i64 0, .int .i64 0, .int .i64 0, .int .i64 0, .int .i64 0]) ?_ 5 _ rfl; (with_reducible repeat (first | refine blk_drewN ?_ _ | refine blk_drew ?_ | refine blk_alloc ?_ _)); refine blk_put (cs := #[.int .i64 a0_0, .int .i64 a0_1, .bool a0_2, .bool a0_3, .int .i64 0, .int .i64 0, .int .i64 0, .int .i64 0, .int .i64 0, .int .i64 0]) ?_ 4 _ rfl; (with_reducible repeat (first | refine blk_drewN ?_ _ | refine blk_drew ?_ | refine blk_alloc ?_ _)); refine blk_put (cs := #[.int .i64 a0_0, .int .i64 a0_1, .bool a0_2, .bool false, .int .i64 0, .int .i64 0, .int .i64 0, .int .i64 0, .int .i64 0, .int .i64 0]) ?_ 3 _ rfl; (with_reducible repeat (first | refine blk_drewN ?_ _ | refine blk_drew ?_ | refine blk_alloc ?_ _)); refine blk_put (cs := #[.int .i64 a0_0, .int .i64 a0_1, .bool false, .bool false, .int .i64 0, .int .i64 0, .int .i64 0, .int .i64 0, .int .i64 0, .int .i64 0]) ?_ 2 _ rfl; (with_reducible repeat (first | refine blk_drewN ?_ _ | refine blk_drew ?_ | refine blk_alloc ?_ _)); refine blk_put (cs := #[.int .i64 a0_0, .int .i64 0, .bool false, .bool false, .int .i64 0, .int .i64 0, .int .i64 0, .int .i64 0, .int .i64 0, .int .i64 0]) ?_ 1 _ rfl; (with_reducible repeat (first | refine blk_drewN ?_ _ | refine blk_drew ?_ | refine blk_alloc ?_ _)); refine blk_put (cs := #[.int .i64 0, .int .i64 0, .bool false, .bool false, .int .i64 0, .int .i64 0, .int .i64 0, .int .i64 0, .int .i64 0, .int .i64 0]) ?_ 0 _ rfl; (with_reducible repeat (first | refine blk_drewN ?_ _ | refine blk_drew ?_ | refine blk_alloc ?_ _)); exact BK364.out) hb); have n2_ := Aside0.mk (below_step (by repeat (first | (with_reducible first | exact HB.out | apply below_alloc | apply pw_below_drewN | apply below_drew1 | refine below_set ?_ GE361.out | refine below_set ?_ GE364.out) | exact HB.out)) hb); clear BK361; clear BK364; clear HB; have BK361 := n0_; have BK364 := n1_; have HB := n2_; clear n0_ n1_ n2_; (try clear hb); (try clear hb2); (try clear hk); (try clear hi); have hcz32_0 : w31.cell? ⟨gb364, 0, none⟩ = some (.int .i64 a0_0) := (blk_cell BK364.out 0).trans rfl; have hcz32_1 : w31.cell? ⟨gb364, 1, none⟩ = some (.int .i64 a0_1) := (blk_cell BK364.out 1).trans rfl; have hcz32_2 : w31.cell? ⟨gb364, 2, none⟩ = some (.bool (!a0_2)) := (blk_cell BK364.out 2).trans rfl; have hcz32_3 : w31.cell? ⟨gb364, 3, none⟩ = some (.bool a0_3) := (blk_cell BK364.out 3).trans rfl; have hcz32_4 : w31.cell? ⟨gb364, 4, none⟩ = some (.int .i64 a0_4) := (blk_cell BK364.out 4).trans rfl; have hcz32_5 : w31.cell? ⟨gb364, 5, none⟩ = some (.int .i64 a0_5) := (blk_cell BK364.out 5).trans rfl; have hcz32_6 : w31.cell? ⟨gb364, 6, none⟩ = some (.int .i64 a0_6) := (blk_cell BK364.out 6).trans rfl; have hcz32_7 : w31.cell? ⟨gb364, 7, none⟩ = some (.int .i64 a0_7) := (blk_cell BK364.out 7).trans rfl; have hcz32_8 : w31.cell? ⟨gb364, 8, none⟩ = some (.int .i64 a0_8) := (blk_cell BK364.out 8).trans rfl; have hcz32_9 : w31.cell? ⟨gb364, 9, none⟩ = some (.int .i64 a0_9) := (blk_cell BK364.out 9).trans rfl; have hfz32_0 := blk_frozen BK364.out 0; have hfz32_1 := blk_frozen BK364.out 1; have hfz32_2 := blk_frozen BK364.out 2; have hfz32_3 := blk_frozen BK364.out 3; have hfz32_4 := blk_frozen BK364.out 4; have hfz32_5 := blk_frozen BK364.out 5; have hfz32_6 := blk_frozen BK364.out 6; have hfz32_7 := blk_frozen BK364.out 7; have hfz32_8 := blk_frozen BK364.out 8; have hfz32_9 := blk_frozen BK364.out 9) | ((with_reducible refine gate_callee (f := 24) rfl ?_); refine goesL_ (some 28) rfl rfl Try.func24 (by kernel_rfl) rfl #[.agg #[.int .i64 a0_0, .int .i64 a0_1, .bool (!a0_2), .bool a0_3, .int .i64 a0_4, .int .i64 a0_5, .int .i64 a0_6, .int .i64 a0_7, .int .i64 a0_8, .int .i64 a0_9], .int .i64 a1] rfl (by (try simp only [List.map_toArray, List.map_cons, List.map_nil]); first | done | rfl | (simp only [List.length_drop, List.length_take]; rfl)) ?_; (with_reducible refine (format_Put.calls k a0_0 a0_1 (!a0_2) a0_3 a0_4 a0_5 a0_6 a0_7 a0_8 a0_9 a1 t366 _ A8.out).mono ?_); rintro e w33 ⟨rfl, hb⟩; refine ⟨_, rfl, ?_⟩; have n0_ := Aside0.mk (blk_below (g := gb361) (o := .cells #[.int .i64 a0_0, .int .i64 a0_1, .bool a0_2, .bool a0_3, .int .i64 a0_4, .int .i64 a0_5, .int .i64 a0_6, .int .i64 a0_7, .int .i64 a0_8, .int .i64 a0_9] 23 (0, 0)) (by (with_reducible repeat (first | refine blk_drewN ?_ _ | refine blk_drew ?_ | refine blk_alloc ?_ _)); exact BK361.out) hb); have n1_ := Aside0.mk (blk_below (g := gb364) (o := .cells #[.int .i64 a0_0, .int .i64 a0_1, .bool (!a0_2), .bool a0_3, .int .i64 a0_4, .int .i64 a0_5, .int .i64 a0_6, .int .i64 a0_7, .int .i64 a0_8, .int .i64 a0_9] 23 (0, 0)) (by (with_reducible repeat (first | refine blk_drewN ?_ _ | refine blk_drew ?_ | refine blk_alloc ?_ _)); exact BK364.out) hb); have n2_ := Aside0.mk (below_step (by repeat (first | (with_reducible first | exact HB.out | apply below_alloc | apply pw_below_drewN | apply below_drew1 | refine below_set ?_ GE361.out | refine below_set ?_ GE364.out) | exact HB.out)) hb); clear BK361; clear BK364; clear HB; have BK361 := n0_; have BK364 := n1_; have HB := n2_; clear n0_ n1_ n2_; (try clear hb); (try clear hb2); (try clear hk); (try clear hi); have hcz34_0 : w33.cell? ⟨gb361, 0, none⟩ = some (.int .i64 a0_0) := (blk_cell BK361.out 0).trans rfl; have hcz34_1 : w33.cell? ⟨gb361, 1, none⟩ = some (.int .i64 a0_1) := (blk_cell BK361.out 1).trans rfl; have hcz34_2 : w33.cell? ⟨gb361, 2, none⟩ = some (.bool a0_2) := (blk_cell BK361.out 2).trans rfl; have hcz34_3 : w33.cell? ⟨gb361, 3, none⟩ = some (.bool a0_3) := (blk_cell BK361.out 3).trans rfl; have hcz34_4 : w33.cell? ⟨gb361, 4, none⟩ = some (.int .i64 a0_4) := (blk_cell BK361.out 4).trans rfl; have hcz34_5 : w33.cell? ⟨gb361, 5, none⟩ = some (.int .i64 a0_5) := (blk_cell BK361.out 5).trans rfl; have hcz34_6 : w33.cell? ⟨gb361, 6, none⟩ = some (.int .i64 a0_6) := (blk_cell BK361.out 6).trans rfl; have hcz34_7 : w33.cell? ⟨gb361, 7, none⟩ = some (.int .i64 a0_7) := (blk_cell BK361.out 7).trans rfl; have hcz34_8 : w33.cell? ⟨gb361, 8, none⟩ = some (.int .i64 a0_8) := (blk_cell BK361.out 8).trans rfl; have hcz34_9 : w33.cell? ⟨gb361, 9, none⟩ = some (.int .i64 a0_9) := (blk_cell BK361.out 9).trans rfl; have hfz34_0 := blk_frozen BK361.out 0; have hfz34_1 := blk_frozen BK361.out 1; have hfz34_2 := blk_frozen BK361.out 2; have hfz34_3 := blk_frozen BK361.out 3; have hfz34_4 := blk_frozen BK361.out 4; have hfz34_5 := blk_frozen BK361.out 5; have hfz34_6 := blk_frozen BK361.out 6; have hfz34_7 := blk_frozen BK361.out 7; have hfz34_8 := blk_frozen BK361.out 8; have hfz34_9 := blk_frozen BK361.out 9) | ((with_reducible refine gate_callee (f := 25) rfl ?_); refine goesL_ (some 31) rfl rfl Try.func25 (by kernel_rfl) rfl #[.agg #[.int .i64 a0_0, .int .i64 a0_1, .bool a0_2, .bool a0_3, .int .i64 a0_4, .int .i64 a0_5, .int .i64 a0_6, .int .i64 a0_7, .int .i64 a0_8, .int .i64 a0_9], .int .i64 a1] rfl (by (try simp only [List.map_toArray, List.map_cons, List.map_nil]); first | done | rfl | (simp only [List.length_drop, List.length_take]; rfl)) ?_; (with_reducible refine (format_CPut.calls k a0_0 a0_1 a0_2 a0_3 a0_4 a0_5 a0_6 a0_7 a0_8 a0_9 a1 t367 _ A9.out).mono ?_); rintro e w35 ⟨rfl, hb⟩; refine ⟨_, rfl, ?_⟩; have n0_ := Aside0.mk (blk_below (g := gb361) (o := .cells #[.int .i64 a0_0, .int .i64 a0_1, .bool a0_2, .bool a0_3, .int .i64 a0_4, .int .i64 a0_5, .int .i64 a0_6, .int .i64 a0_7, .int .i64 a0_8, .int .i64 a0_9] 23 (0, 0)) (by (with_reducible repeat (first | refine blk_drewN ?_ _ | refine blk_drew ?_ | refine blk_alloc ?_ _)); exact BK361.out) hb); have n1_ := Aside0.mk (blk_below (g := gb364) (o := .cells #[.int .i64 a0_0, .int .i64 a0_1, .bool (!a0_2), .bool a0_3, .int .i64 a0_4, .int .i64 a0_5, .int .i64 a0_6, .int .i64 a0_7, .int .i64 a0_8, .int .i64 a0_9] 23 (0, 0)) (by (with_reducible repeat (first | refine blk_drewN ?_ _ | refine blk_drew ?_ | refine blk_alloc ?_ _)); exact BK364.out) hb); have n2_ := Aside0.mk (below_step (by repeat (first | (with_reducible first | exact HB.out | apply below_alloc | apply pw_below_drewN | apply below_drew1 | refine below_set ?_ GE361.out | refine below_set ?_ GE364.out) | exact HB.out)) hb); clear BK361; clear BK364; clear HB; have BK361 := n0_; have BK364 := n1_; have HB := n2_; clear n0_ n1_ n2_; (try clear hb); (try clear hb2); (try clear hk); (try clear hi); have hcz36_0 : w35.cell? ⟨gb364, 0, none⟩ = some (.int .i64 a0_0) := (blk_cell BK364.out 0).trans rfl; have hcz36_1 : w35.cell? ⟨gb364, 1, none⟩ = some (.int .i64 a0_1) := (blk_cell BK364.out 1).trans rfl; have hcz36_2 : w35.cell? ⟨gb364, 2, none⟩ = some (.bool (!a0_2)) := (blk_cell BK364.out 2).trans rfl; have hcz36_3 : w35.cell? ⟨gb364, 3, none⟩ = some (.bool a0_3) := (blk_cell BK364.out 3).trans rfl; have hcz36_4 : w35.cell? ⟨gb364, 4, none⟩ = some (.int .i64 a0_4) := (blk_cell BK364.out 4).trans rfl; have hcz36_5 : w35.cell? ⟨gb364, 5, none⟩ = some (.int .i64 a0_5) := (blk_cell BK364.out 5).trans rfl; have hcz36_6 : w35.cell? ⟨gb364, 6, none⟩ = some (.int .i64 a0_6) := (blk_cell BK364.out 6).trans rfl; have hcz36_7 : w35.cell? ⟨gb364, 7, none⟩ = some (.int .i64 a0_7) := (blk_cell BK364.out 7).trans rfl; have hcz36_8 : w35.cell? ⟨gb364, 8, none⟩ = some (.int .i64 a0_8) := (blk_cell BK364.out 8).trans rfl; have hcz36_9 : w35.cell? ⟨gb364, 9, none⟩ = some (.int .i64 a0_9) := (blk_cell BK364.out 9).trans rfl; have hfz36_0 := blk_frozen BK364.out 0; have hfz36_1 := blk_frozen BK364.out 1; have hfz36_2 := blk_frozen BK364.out 2; have hfz36_3 := blk_frozen BK364.out 3; have hfz36_4 := blk_frozen BK364.out 4; have hfz36_5 := blk_frozen BK364.out 5; have hfz36_6 := blk_frozen BK364.out 6; have hfz36_7 := blk_frozen BK364.out 7; have hfz36_8 := blk_frozen BK364.out 8; have hfz36_9 := blk_frozen BK364.out 9) | ((with_reducible refine gate_callee (f := 25) rfl ?_); refine goesL_ (some 34) rfl rfl Try.func25 (by kernel_rfl) rfl #[.agg #[.int .i64 a0_0, .int .i64 a0_1, .bool (!a0_2), .bool a0_3, .int .i64 a0_4, .int .i64 a0_5, .int .i64 a0_6, .int .i64 a0_7, .int .i64 a0_8, .int .i64 a0_9], .int .i64 a1] rfl (by (try simp only [List.map_toArray, List.map_cons, List.map_nil]); first | done | rfl | (simp only [List.length_drop, List.length_take]; rfl)) ?_; (with_reducible refine (format_CPut.calls k a0_0 a0_1 (!a0_2) a0_3 a0_4 a0_5 a0_6 a0_7 a0_8 a0_9 a1 t368 _ A10.out).mono ?_); rintro e w37 ⟨rfl, hb⟩; refine ⟨_, rfl, ?_⟩; have n0_ := Aside0.mk (blk_below (g := gb361) (o := .cells #[.int .i64 a0_0, .int .i64 a0_1, .bool a0_2, .bool a0_3, .int .i64 a0_4, .int .i64 a0_5, .int .i64 a0_6, .int .i64 a0_7, .int .i64 a0_8, .int .i64 a0_9] 23 (0, 0)) (by (with_reducible repeat (first | refine blk_drewN ?_ _ | refine blk_drew ?_ | refine blk_alloc ?_ _)); exact BK361.out) hb); have n1_ := Aside0.mk (blk_below (g := gb364) (o := .cells #[.int .i64 a0_0, .int .i64 a0_1, .bool (!a0_2), .bool a0_3, .int .i64 a0_4, .int .i64 a0_5, .int .i64 a0_6, .int .i64 a0_7, .int .i64 a0_8, .int .i64 a0_9] 23 (0, 0)) (by (with_reducible repeat (first | refine blk_drewN ?_ _ | refine blk_drew ?_ | refine blk_alloc ?_ _)); exact BK364.out) hb); have n2_ := Aside0.mk (below_step (by repeat (first | (with_reducible first | exact HB.out | apply below_alloc | apply pw_below_drewN | apply below_drew1 | refine below_set ?_ GE361.out | refine below_set ?_ GE364.out) | exact HB.out)) hb); clear BK361; clear BK364; clear HB; have BK361 := n0_; have BK364 := n1_; have HB := n2_; clear n0_ n1_ n2_; (try clear hb); (try clear hb2); (try clear hk); (try clear hi)))
              have n0_ := Aside0.mk (blk_drew BK361.out)
              have n1_ := Aside0.mk (blk_drew BK364.out)
              have n2_ := Aside0.mk (below_drew1 HB.out)
              clear BK361
              clear BK364
              clear HB
              have BK361 := n0_
              have BK364 := n1_
              have HB := n2_
              clear n0_ n1_ n2_
              refine start_ (n := 36) (S := fun w' => w'.cell? ⟨gb361, 0, none⟩ = some (.int .i64 a0_0) ∧ w'.cell? ⟨gb361, 1, none⟩ = some (.int .i64 a0_1) ∧ w'.cell? ⟨gb361, 2, none⟩ = some (.bool a0_2) ∧ w'.cell? ⟨gb361, 3, none⟩ = some (.bool a0_3) ∧ w'.cell? ⟨gb361, 4, none⟩ = some (.int .i64 a0_4) ∧ w'.cell? ⟨gb361, 5, none⟩ = some (.int .i64 a0_5) ∧ w'.cell? ⟨gb361, 6, none⟩ = some (.int .i64 a0_6) ∧ w'.cell? ⟨gb361, 7, none⟩ = some (.int .i64 a0_7) ∧ w'.cell? ⟨gb361, 8, none⟩ = some (.int .i64 a0_8) ∧ w'.cell? ⟨gb361, 9, none⟩ = some (.int .i64 a0_9) ∧ w'.cell? ⟨gb364, 0, none⟩ = some (.int .i64 a0_0) ∧ w'.cell? ⟨gb364, 1, none⟩ = some (.int .i64 a0_1) ∧ w'.cell? ⟨gb364, 2, none⟩ = some (.bool (!a0_2)) ∧ w'.cell? ⟨gb364, 3, none⟩ = some (.bool a0_3) ∧ w'.cell? ⟨gb364, 4, none⟩ = some (.int .i64 a0_4) ∧ w'.cell? ⟨gb364, 5, none⟩ = some (.int .i64 a0_5) ∧ w'.cell? ⟨gb364, 6, none⟩ = some (.int .i64 a0_6) ∧ w'.cell? ⟨gb364, 7, none⟩ = some (.int .i64 a0_7) ∧ w'.cell? ⟨gb364, 8, none⟩ = some (.int .i64 a0_8) ∧ w'.cell? ⟨gb364, 9, none⟩ = some (.int .i64 a0_9)) (ds := []) #[false, false, false, false, false, false, false, false, false, false, false, false, false, false, false, false, false, false, false, false, false, false, false, false, false, false, false, false, false, false, false, false, false, false, false, false] (by kernel_rfl) rfl rfl ⟨(blk_cell BK361.out 0).trans rfl, (blk_cell BK361.out 1).trans rfl, (blk_cell BK361.out 2).trans rfl, (blk_cell BK361.out 3).trans rfl, (blk_cell BK361.out 4).trans rfl, (blk_cell BK361.out 5).trans rfl, (blk_cell BK361.out 6).trans rfl, (blk_cell BK361.out 7).trans rfl, (blk_cell BK361.out 8).trans rfl, (blk_cell BK361.out 9).trans rfl, (blk_cell BK364.out 0).trans rfl, (blk_cell BK364.out 1).trans rfl, (blk_cell BK364.out 2).trans rfl, (blk_cell BK364.out 3).trans rfl, (blk_cell BK364.out 4).trans rfl, (blk_cell BK364.out 5).trans rfl, (blk_cell BK364.out 6).trans rfl, (blk_cell BK364.out 7).trans rfl, (blk_cell BK364.out 8).trans rfl, (blk_cell BK364.out 9).trans rfl⟩ (fun hHeld => ?_); refine with_tabW miradorlaw13_FormatOrder.tab12 miradorlaw13_FormatOrder.bits12 (fun HT_ HW_ => ?_)
              generalize w37.drew = w38 at BK361 BK364 HB hHeld ⊢
              refine pure_ (i := 0) (N := some 35) (v := ?_) (a' := ?_) #[true, false, false, false, false, false, false, false, false, false, false, false, false, false, false, false, false, false, false, false, false, false, false, false, false, false, false, false, false, false, false, false, false, false, false, false] rfl rfl (any_of HT_.out (by kernel_rfl)) (fun _ _ _ h => h) (Or.inl ⟨by rfl, ?_⟩) ?_ ?_
              rotate_left
              · intro w'
                go_simp
                with_reducible rfl
              rotate_left
              · simp only [Act.put, List.setIfInBounds_toArray, List.set_cons_zero, List.set_cons_succ, i64_w, i32_w]
                rfl
              refine pure_ (i := 1) (N := some 36) (v := ?_) (a' := ?_) #[true, true, false, false, false, false, false, false, false, false, false, false, false, false, false, false, false, false, false, false, false, false, false, false, false, false, false, false, false, false, false, false, false, false, false, false] rfl rfl (any_of HT_.out (by kernel_rfl)) (fun _ _ _ h => h) (Or.inl ⟨by rfl, ?_⟩) ?_ ?_
              rotate_left
              · intro w'
                go_simp
                with_reducible rfl
              rotate_left
              · simp only [Act.put, List.setIfInBounds_toArray, List.set_cons_zero, List.set_cons_succ, i64_w, i32_w]
                rfl
              refine pure_ (i := 2) (N := some 37) (v := ?_) (a' := ?_) #[true, true, true, false, false, false, false, false, false, false, false, false, false, false, false, false, false, false, false, false, false, false, false, false, false, false, false, false, false, false, false, false, false, false, false, false] rfl rfl (any_of HT_.out (by kernel_rfl)) (fun _ _ _ h => h) (Or.inl ⟨by rfl, ?_⟩) ?_ ?_
              rotate_left
              · intro w'
                go_simp
                with_reducible rfl
              rotate_left
              · simp only [Act.put, List.setIfInBounds_toArray, List.set_cons_zero, List.set_cons_succ, i64_w, i32_w]
                rfl
              refine pure_ (i := 3) (N := some 38) (v := ?_) (a' := ?_) #[true, true, true, true, false, false, false, false, false, false, false, false, false, false, false, false, false, false, false, false, false, false, false, false, false, false, false, false, false, false, false, false, false, false, false, false] rfl rfl (any_of HT_.out (by kernel_rfl)) (fun _ _ _ h => h) (Or.inl ⟨by rfl, ?_⟩) ?_ ?_
              rotate_left
              · intro w'
                go_simp
                with_reducible rfl
              rotate_left
              · simp only [Act.put, List.setIfInBounds_toArray, List.set_cons_zero, List.set_cons_succ, i64_w, i32_w]
                rfl
              refine one_ (i := 4) (N := some 39) #[true, true, true, true, true, false, false, false, false, false, false, false, false, false, false, false, false, false, false, false, false, false, false, false, false, false, false, false, false, false, false, false, false, false, false, false] rfl rfl (one_of HT_.out (by kernel_rfl)) (by decide) (fun K hK => ?_)
              refine goes_ Try.func26 (by kernel_rfl) rfl #[.string t366] (by rfl) rfl rfl (by (try simp only [List.map_toArray, List.map_cons, List.map_nil]); first | done | rfl | (simp only [List.length_drop, List.length_take]; rfl)) ?_
              with_reducible refine (miradorref01_Turned.calls k t366 t369 _ A11.out).mono ?_
              rintro e w' ⟨rfl, ⟨nd, rfl⟩⟩
              refine ⟨_, rfl, ?_⟩
              refine hK.out _ _ ⟨(blk_cell BK361.out 0).trans rfl, (blk_cell BK361.out 1).trans rfl, (blk_cell BK361.out 2).trans rfl, (blk_cell BK361.out 3).trans rfl, (blk_cell BK361.out 4).trans rfl, (blk_cell BK361.out 5).trans rfl, (blk_cell BK361.out 6).trans rfl, (blk_cell BK361.out 7).trans rfl, (blk_cell BK361.out 8).trans rfl, (blk_cell BK361.out 9).trans rfl, (blk_cell BK364.out 0).trans rfl, (blk_cell BK364.out 1).trans rfl, (blk_cell BK364.out 2).trans rfl, (blk_cell BK364.out 3).trans rfl, (blk_cell BK364.out 4).trans rfl, (blk_cell BK364.out 5).trans rfl, (blk_cell BK364.out 6).trans rfl, (blk_cell BK364.out 7).trans rfl, (blk_cell BK364.out 8).trans rfl, (blk_cell BK364.out 9).trans rfl⟩ (fun hHeld => ?_)
              clear hK K
              refine norm_ (a' := ?_) ?_ ?_
              rotate_left
              · show Act.put _ (some 39) _ = _
                simp only [Act.put, List.setIfInBounds_toArray, List.set_cons_zero, List.set_cons_succ, i64_w, i32_w]
                rfl
              refine pure_ (i := 5) (N := some 40) (v := ?_) (a' := ?_) #[true, true, true, true, true, true, false, false, false, false, false, false, false, false, false, false, false, false, false, false, false, false, false, false, false, false, false, false, false, false, false, false, false, false, false, false] rfl rfl (any_of HT_.out (by kernel_rfl)) (fun _ _ _ h => h) (Or.inl ⟨by rfl, ?_⟩) ?_ ?_
              rotate_left
              · intro w'
                go_simp
                with_reducible rfl
              rotate_left
              · simp only [Act.put, List.setIfInBounds_toArray, List.set_cons_zero, List.set_cons_succ, i64_w, i32_w]
                rfl
              refine pure_ (i := 6) (N := some 41) (v := ?_) (a' := ?_) #[true, true, true, true, true, true, true, false, false, false, false, false, false, false, false, false, false, false, false, false, false, false, false, false, false, false, false, false, false, false, false, false, false, false, false, false] rfl rfl (any_of HT_.out (by kernel_rfl)) (fun _ _ _ h => h) (Or.inl ⟨by rfl, ?_⟩) ?_ ?_
              rotate_left
              · intro w'
                go_simp
                with_reducible rfl
              rotate_left
              · simp only [Act.put, List.setIfInBounds_toArray, List.set_cons_zero, List.set_cons_succ, i64_w, i32_w]
                rfl
              refine pure_ (i := 7) (N := some 42) (v := ?_) (a' := ?_) #[true, true, true, true, true, true, true, true, false, false, false, false, false, false, false, false, false, false, false, false, false, false, false, false, false, false, false, false, false, false, false, false, false, false, false, false] rfl rfl (any_of HT_.out (by kernel_rfl)) (fun _ _ _ h => h) (Or.inl ⟨by rfl, ?_⟩) ?_ ?_
              rotate_left
              · intro w'
                go_simp
                with_reducible rfl
              rotate_left
              · simp only [Act.put, List.setIfInBounds_toArray, List.set_cons_zero, List.set_cons_succ, i64_w, i32_w]
                rfl
              refine pure_ (i := 8) (N := some 43) (v := ?_) (a' := ?_) #[true, true, true, true, true, true, true, true, true, false, false, false, false, false, false, false, false, false, false, false, false, false, false, false, false, false, false, false, false, false, false, false, false, false, false, false] rfl rfl (any_of HT_.out (by kernel_rfl)) (fun _ _ _ h => h) (Or.inl ⟨by rfl, ?_⟩) ?_ ?_
              rotate_left
              · intro w'
                go_simp
                with_reducible rfl
              rotate_left
              · simp only [Act.put, List.setIfInBounds_toArray, List.set_cons_zero, List.set_cons_succ, i64_w, i32_w]
                rfl
              refine pure_ (i := 9) (N := some 44) (v := ?_) (a' := ?_) #[true, true, true, true, true, true, true, true, true, true, false, false, false, false, false, false, false, false, false, false, false, false, false, false, false, false, false, false, false, false, false, false, false, false, false, false] rfl rfl (any_of HT_.out (by kernel_rfl)) (fun _ _ _ h => h) (Or.inl ⟨by rfl, ?_⟩) ?_ ?_
              rotate_left
              · intro w'
                go_simp
                with_reducible rfl
              rotate_left
              · simp only [Act.put, List.setIfInBounds_toArray, List.set_cons_zero, List.set_cons_succ, i64_w, i32_w]
                rfl
              refine one_ (i := 10) (N := some 45) #[true, true, true, true, true, true, true, true, true, true, true, false, false, false, false, false, false, false, false, false, false, false, false, false, false, false, false, false, false, false, false, false, false, false, false, false] rfl rfl (one_of HT_.out (by kernel_rfl)) (by decide) (fun K hK => ?_)
              refine goes_ Try.func26 (by kernel_rfl) rfl #[.string t368] (by rfl) rfl rfl (by (try simp only [List.map_toArray, List.map_cons, List.map_nil]); first | done | rfl | (simp only [List.length_drop, List.length_take]; rfl)) ?_
              with_reducible refine (miradorref01_Turned.calls k t368 t370 _ A13.out).mono ?_
              rintro e w' ⟨rfl, ⟨nd, rfl⟩⟩
              refine ⟨_, rfl, ?_⟩
              refine hK.out _ _ ⟨(blk_cell BK361.out 0).trans rfl, (blk_cell BK361.out 1).trans rfl, (blk_cell BK361.out 2).trans rfl, (blk_cell BK361.out 3).trans rfl, (blk_cell BK361.out 4).trans rfl, (blk_cell BK361.out 5).trans rfl, (blk_cell BK361.out 6).trans rfl, (blk_cell BK361.out 7).trans rfl, (blk_cell BK361.out 8).trans rfl, (blk_cell BK361.out 9).trans rfl, (blk_cell BK364.out 0).trans rfl, (blk_cell BK364.out 1).trans rfl, (blk_cell BK364.out 2).trans rfl, (blk_cell BK364.out 3).trans rfl, (blk_cell BK364.out 4).trans rfl, (blk_cell BK364.out 5).trans rfl, (blk_cell BK364.out 6).trans rfl, (blk_cell BK364.out 7).trans rfl, (blk_cell BK364.out 8).trans rfl, (blk_cell BK364.out 9).trans rfl⟩ (fun hHeld => ?_)
              clear hK K
              refine norm_ (a' := ?_) ?_ ?_
              rotate_left
              · show Act.put _ (some 45) _ = _
                simp only [Act.put, List.setIfInBounds_toArray, List.set_cons_zero, List.set_cons_succ, i64_w, i32_w]
                rfl
              refine pure_ (i := 11) (N := some 46) (v := ?_) (a' := ?_) #[true, true, true, true, true, true, true, true, true, true, true, true, false, false, false, false, false, false, false, false, false, false, false, false, false, false, false, false, false, false, false, false, false, false, false, false] rfl rfl (any_of HT_.out (by kernel_rfl)) (fun _ _ _ h => h) (Or.inl ⟨by rfl, ?_⟩) ?_ ?_
              rotate_left
              · intro w'
                go_simp
                with_reducible rfl
              rotate_left
              · simp only [Act.put, List.setIfInBounds_toArray, List.set_cons_zero, List.set_cons_succ, i64_w, i32_w]
                rfl
              refine pure_ (i := 12) (N := some 47) (v := ?_) (a' := ?_) #[true, true, true, true, true, true, true, true, true, true, true, true, true, false, false, false, false, false, false, false, false, false, false, false, false, false, false, false, false, false, false, false, false, false, false, false] rfl rfl (any_of HT_.out (by kernel_rfl)) (fun _ _ _ h => h) (Or.inl ⟨by rfl, ?_⟩) ?_ ?_
              rotate_left
              · intro w'
                go_simp
                with_reducible rfl
              rotate_left
              · simp only [Act.put, List.setIfInBounds_toArray, List.set_cons_zero, List.set_cons_succ, i64_w, i32_w]
                rfl
              refine pure_ (i := 13) (N := some 48) (v := ?_) (a' := ?_) #[true, true, true, true, true, true, true, true, true, true, true, true, true, true, false, false, false, false, false, false, false, false, false, false, false, false, false, false, false, false, false, false, false, false, false, false] rfl rfl (any_of HT_.out (by kernel_rfl)) (fun _ _ _ h => h) (Or.inl ⟨by rfl, ?_⟩) ?_ ?_
              rotate_left
              · intro w'
                go_simp
                with_reducible rfl
              rotate_left
              · simp only [Act.put, List.setIfInBounds_toArray, List.set_cons_zero, List.set_cons_succ, i64_w, i32_w]
                rfl
              refine pure_ (i := 15) (N := some 50) (v := ?_) (a' := ?_) #[true, true, true, true, true, true, true, true, true, true, true, true, true, true, false, true, false, false, false, false, false, false, false, false, false, false, false, false, false, false, false, false, false, false, false, false] rfl rfl (any_of HT_.out (by kernel_rfl)) (fun _ _ _ h => h) (Or.inl ⟨by rfl, ?_⟩) ?_ ?_
              rotate_left
              · intro w'
                go_simp
                with_reducible rfl
              rotate_left
              · simp only [Act.put, List.setIfInBounds_toArray, List.set_cons_zero, List.set_cons_succ, i64_w, i32_w]
                rfl
              refine pure_ (i := 18) (N := some 53) (v := ?_) (a' := ?_) #[true, true, true, true, true, true, true, true, true, true, true, true, true, true, false, true, false, false, true, false, false, false, false, false, false, false, false, false, false, false, false, false, false, false, false, false] rfl rfl (any_of HT_.out (by kernel_rfl)) (fun _ _ _ h => h) (Or.inl ⟨by rfl, ?_⟩) ?_ ?_
              rotate_left
              · intro w'
                go_simp
                with_reducible rfl
              rotate_left
              · simp only [Act.put, List.setIfInBounds_toArray, List.set_cons_zero, List.set_cons_succ, i64_w, i32_w]
                rfl
              refine take_ (i := 14) (N := some 49) (v := ?_) (a' := ?_) #[true, true, true, true, true, true, true, true, true, true, true, true, true, true, true, true, false, false, true, false, false, false, false, false, false, false, false, false, false, false, false, false, false, false, false, false] rfl rfl (take_ofW HT_.out HW_.out (by kernel_rfl)) (fun _ _ _ h => h) (Or.inl ⟨by rfl, ?_⟩) hHeld ?_ ?_
              rotate_left
              · rintro w' ⟨s0, s1, s2, s3, s4, s5, s6, s7, s8, s9, s10, s11, s12, s13, s14, s15, s16, s17, s18, s19⟩
                go_simp
                with_reducible rfl
              rotate_left
              · simp only [Act.put, List.setIfInBounds_toArray, List.set_cons_zero, List.set_cons_succ, i64_w, i32_w]
                rfl
              refine take_ (i := 17) (N := some 52) (v := ?_) (a' := ?_) #[true, true, true, true, true, true, true, true, true, true, true, true, true, true, true, true, false, true, true, false, false, false, false, false, false, false, false, false, false, false, false, false, false, false, false, false] rfl rfl (take_ofW HT_.out HW_.out (by kernel_rfl)) (fun _ _ _ h => h) (Or.inl ⟨by rfl, ?_⟩) hHeld ?_ ?_
              rotate_left
              · rintro w' ⟨s0, s1, s2, s3, s4, s5, s6, s7, s8, s9, s10, s11, s12, s13, s14, s15, s16, s17, s18, s19⟩
                go_simp
                with_reducible rfl
              rotate_left
              · simp only [Act.put, List.setIfInBounds_toArray, List.set_cons_zero, List.set_cons_succ, i64_w, i32_w]
                rfl
              refine one_ (i := 16) (N := some 51) #[true, true, true, true, true, true, true, true, true, true, true, true, true, true, true, true, true, true, true, false, false, false, false, false, false, false, false, false, false, false, false, false, false, false, false, false] rfl rfl (one_of HT_.out (by kernel_rfl)) (by decide) (fun K hK => ?_)
              refine goes_ Try.func19 (by kernel_rfl) rfl #[.agg #[.int .i64 a0_0, .int .i64 a0_1, .bool a0_2, .bool a0_3, .int .i64 a0_4, .int .i64 a0_5, .int .i64 a0_6, .int .i64 a0_7, .int .i64 a0_8, .int .i64 a0_9], .int .i64 a1] (by rfl) rfl rfl (by (try simp only [List.map_toArray, List.map_cons, List.map_nil]); first | done | rfl | (simp only [List.length_drop, List.length_take]; rfl)) ?_
              with_reducible refine (format_Value.calls a0_0 a0_1 a0_2 a0_3 a0_4 a0_5 a0_6 a0_7 a0_8 a0_9 a1 t371 _ A15.out).mono ?_
              rintro e w39 ⟨rfl, hb⟩
              refine ⟨_, rfl, ?_⟩
              have n0_ := Aside0.mk (blk_below (g := gb361) (o := .cells #[.int .i64 a0_0, .int .i64 a0_1, .bool a0_2, .bool a0_3, .int .i64 a0_4, .int .i64 a0_5, .int .i64 a0_6, .int .i64 a0_7, .int .i64 a0_8, .int .i64 a0_9] 23 (0, 0)) (by (with_reducible repeat (first | refine blk_drewN ?_ _ | refine blk_drew ?_ | refine blk_alloc ?_ _)); exact BK361.out) hb)
              have n1_ := Aside0.mk (blk_below (g := gb364) (o := .cells #[.int .i64 a0_0, .int .i64 a0_1, .bool (!a0_2), .bool a0_3, .int .i64 a0_4, .int .i64 a0_5, .int .i64 a0_6, .int .i64 a0_7, .int .i64 a0_8, .int .i64 a0_9] 23 (0, 0)) (by (with_reducible repeat (first | refine blk_drewN ?_ _ | refine blk_drew ?_ | refine blk_alloc ?_ _)); exact BK364.out) hb)
              have n2_ := Aside0.mk (below_step (by repeat (first | (with_reducible first | exact HB.out | apply below_alloc | apply pw_below_drewN | apply below_drew1 | refine below_set ?_ GE361.out | refine below_set ?_ GE364.out) | exact HB.out)) hb)
              clear BK361
              clear BK364
              clear HB
              have BK361 := n0_
              have BK364 := n1_
              have HB := n2_
              clear n0_ n1_ n2_
              (try clear hb)
              (try clear hb2)
              (try clear hk)
              (try clear hi)
              refine hK.out _ _ ⟨(blk_cell BK361.out 0).trans rfl, (blk_cell BK361.out 1).trans rfl, (blk_cell BK361.out 2).trans rfl, (blk_cell BK361.out 3).trans rfl, (blk_cell BK361.out 4).trans rfl, (blk_cell BK361.out 5).trans rfl, (blk_cell BK361.out 6).trans rfl, (blk_cell BK361.out 7).trans rfl, (blk_cell BK361.out 8).trans rfl, (blk_cell BK361.out 9).trans rfl, (blk_cell BK364.out 0).trans rfl, (blk_cell BK364.out 1).trans rfl, (blk_cell BK364.out 2).trans rfl, (blk_cell BK364.out 3).trans rfl, (blk_cell BK364.out 4).trans rfl, (blk_cell BK364.out 5).trans rfl, (blk_cell BK364.out 6).trans rfl, (blk_cell BK364.out 7).trans rfl, (blk_cell BK364.out 8).trans rfl, (blk_cell BK364.out 9).trans rfl⟩ (fun hHeld => ?_)
              clear hK K
              refine norm_ (a' := ?_) ?_ ?_
              rotate_left
              · show Act.put _ (some 51) _ = _
                simp only [Act.put, List.setIfInBounds_toArray, List.set_cons_zero, List.set_cons_succ, i64_w, i32_w]
                rfl
              refine one_ (i := 19) (N := some 54) #[true, true, true, true, true, true, true, true, true, true, true, true, true, true, true, true, true, true, true, true, false, false, false, false, false, false, false, false, false, false, false, false, false, false, false, false] rfl rfl (one_of HT_.out (by kernel_rfl)) (by decide) (fun K hK => ?_)
              refine goes_ Try.func19 (by kernel_rfl) rfl #[.agg #[.int .i64 a0_0, .int .i64 a0_1, .bool (!a0_2), .bool a0_3, .int .i64 a0_4, .int .i64 a0_5, .int .i64 a0_6, .int .i64 a0_7, .int .i64 a0_8, .int .i64 a0_9], .int .i64 a1] (by rfl) rfl rfl (by (try simp only [List.map_toArray, List.map_cons, List.map_nil]); first | done | rfl | (simp only [List.length_drop, List.length_take]; rfl)) ?_
              with_reducible refine (format_Value.calls a0_0 a0_1 (!a0_2) a0_3 a0_4 a0_5 a0_6 a0_7 a0_8 a0_9 a1 t372 _ A16.out).mono ?_
              rintro e w40 ⟨rfl, hb⟩
              refine ⟨_, rfl, ?_⟩
              have n0_ := Aside0.mk (blk_below (g := gb361) (o := .cells #[.int .i64 a0_0, .int .i64 a0_1, .bool a0_2, .bool a0_3, .int .i64 a0_4, .int .i64 a0_5, .int .i64 a0_6, .int .i64 a0_7, .int .i64 a0_8, .int .i64 a0_9] 23 (0, 0)) (by (with_reducible repeat (first | refine blk_drewN ?_ _ | refine blk_drew ?_ | refine blk_alloc ?_ _)); exact BK361.out) hb)
              have n1_ := Aside0.mk (blk_below (g := gb364) (o := .cells #[.int .i64 a0_0, .int .i64 a0_1, .bool (!a0_2), .bool a0_3, .int .i64 a0_4, .int .i64 a0_5, .int .i64 a0_6, .int .i64 a0_7, .int .i64 a0_8, .int .i64 a0_9] 23 (0, 0)) (by (with_reducible repeat (first | refine blk_drewN ?_ _ | refine blk_drew ?_ | refine blk_alloc ?_ _)); exact BK364.out) hb)
              have n2_ := Aside0.mk (below_step (by repeat (first | (with_reducible first | exact HB.out | apply below_alloc | apply pw_below_drewN | apply below_drew1 | refine below_set ?_ GE361.out | refine below_set ?_ GE364.out) | exact HB.out)) hb)
              clear BK361
              clear BK364
              clear HB
              have BK361 := n0_
              have BK364 := n1_
              have HB := n2_
              clear n0_ n1_ n2_
              (try clear hb)
              (try clear hb2)
              (try clear hk)
              (try clear hi)
              refine hK.out _ _ ⟨(blk_cell BK361.out 0).trans rfl, (blk_cell BK361.out 1).trans rfl, (blk_cell BK361.out 2).trans rfl, (blk_cell BK361.out 3).trans rfl, (blk_cell BK361.out 4).trans rfl, (blk_cell BK361.out 5).trans rfl, (blk_cell BK361.out 6).trans rfl, (blk_cell BK361.out 7).trans rfl, (blk_cell BK361.out 8).trans rfl, (blk_cell BK361.out 9).trans rfl, (blk_cell BK364.out 0).trans rfl, (blk_cell BK364.out 1).trans rfl, (blk_cell BK364.out 2).trans rfl, (blk_cell BK364.out 3).trans rfl, (blk_cell BK364.out 4).trans rfl, (blk_cell BK364.out 5).trans rfl, (blk_cell BK364.out 6).trans rfl, (blk_cell BK364.out 7).trans rfl, (blk_cell BK364.out 8).trans rfl, (blk_cell BK364.out 9).trans rfl⟩ (fun hHeld => ?_)
              clear hK K
              refine norm_ (a' := ?_) ?_ ?_
              rotate_left
              · show Act.put _ (some 54) _ = _
                simp only [Act.put, List.setIfInBounds_toArray, List.set_cons_zero, List.set_cons_succ, i64_w, i32_w]
                rfl
              refine pure_ (i := 20) (N := some 55) (v := ?_) (a' := ?_) #[true, true, true, true, true, true, true, true, true, true, true, true, true, true, true, true, true, true, true, true, true, false, false, false, false, false, false, false, false, false, false, false, false, false, false, false] rfl rfl (any_of HT_.out (by kernel_rfl)) (fun _ _ _ h => h) (Or.inl ⟨by rfl, ?_⟩) ?_ ?_
              rotate_left
              · intro w'
                go_simp
                with_reducible rfl
              rotate_left
              · simp only [Act.put, List.setIfInBounds_toArray, List.set_cons_zero, List.set_cons_succ, i64_w, i32_w]
                rfl
              refine pure_ (i := 21) (N := some 56) (v := ?_) (a' := ?_) #[true, true, true, true, true, true, true, true, true, true, true, true, true, true, true, true, true, true, true, true, true, true, false, false, false, false, false, false, false, false, false, false, false, false, false, false] rfl rfl (any_of HT_.out (by kernel_rfl)) (fun _ _ _ h => h) (Or.inl ⟨by rfl, ?_⟩) ?_ ?_
              rotate_left
              · intro w'
                go_simp
                with_reducible rfl
              rotate_left
              · simp only [Act.put, List.setIfInBounds_toArray, List.set_cons_zero, List.set_cons_succ, i64_w, i32_w]
                rfl
              refine pure_ (i := 22) (N := some 57) (v := ?_) (a' := ?_) #[true, true, true, true, true, true, true, true, true, true, true, true, true, true, true, true, true, true, true, true, true, true, true, false, false, false, false, false, false, false, false, false, false, false, false, false] rfl rfl (any_of HT_.out (by kernel_rfl)) (fun _ _ _ h => h) (Or.inl ⟨by rfl, ?_⟩) ?_ ?_
              rotate_left
              · intro w'
                go_simp
                with_reducible rfl
              rotate_left
              · simp only [Act.put, List.setIfInBounds_toArray, List.set_cons_zero, List.set_cons_succ, i64_w, i32_w]
                rfl
              refine pure_ (i := 24) (N := some 59) (v := ?_) (a' := ?_) #[true, true, true, true, true, true, true, true, true, true, true, true, true, true, true, true, true, true, true, true, true, true, true, false, true, false, false, false, false, false, false, false, false, false, false, false] rfl rfl (any_of HT_.out (by kernel_rfl)) (fun _ _ _ h => h) (Or.inl ⟨by rfl, ?_⟩) ?_ ?_
              rotate_left
              · intro w'
                go_simp
                with_reducible rfl
              rotate_left
              · simp only [Act.put, List.setIfInBounds_toArray, List.set_cons_zero, List.set_cons_succ, i64_w, i32_w]
                rfl
              refine pure_ (i := 27) (N := some 62) (v := ?_) (a' := ?_) #[true, true, true, true, true, true, true, true, true, true, true, true, true, true, true, true, true, true, true, true, true, true, true, false, true, false, false, true, false, false, false, false, false, false, false, false] rfl rfl (any_of HT_.out (by kernel_rfl)) (fun _ _ _ h => h) (Or.inl ⟨by rfl, ?_⟩) ?_ ?_
              rotate_left
              · intro w'
                go_simp
                with_reducible rfl
              rotate_left
              · simp only [Act.put, List.setIfInBounds_toArray, List.set_cons_zero, List.set_cons_succ, i64_w, i32_w]
                rfl
              refine take_ (i := 23) (N := some 58) (v := ?_) (a' := ?_) #[true, true, true, true, true, true, true, true, true, true, true, true, true, true, true, true, true, true, true, true, true, true, true, true, true, false, false, true, false, false, false, false, false, false, false, false] rfl rfl (take_ofW HT_.out HW_.out (by kernel_rfl)) (fun _ _ _ h => h) (Or.inl ⟨by rfl, ?_⟩) hHeld ?_ ?_
              rotate_left
              · rintro w' ⟨s0, s1, s2, s3, s4, s5, s6, s7, s8, s9, s10, s11, s12, s13, s14, s15, s16, s17, s18, s19⟩
                go_simp
                with_reducible rfl
              rotate_left
              · simp only [Act.put, List.setIfInBounds_toArray, List.set_cons_zero, List.set_cons_succ, i64_w, i32_w]
                rfl
              refine take_ (i := 26) (N := some 61) (v := ?_) (a' := ?_) #[true, true, true, true, true, true, true, true, true, true, true, true, true, true, true, true, true, true, true, true, true, true, true, true, true, false, true, true, false, false, false, false, false, false, false, false] rfl rfl (take_ofW HT_.out HW_.out (by kernel_rfl)) (fun _ _ _ h => h) (Or.inl ⟨by rfl, ?_⟩) hHeld ?_ ?_
              rotate_left
              · rintro w' ⟨s0, s1, s2, s3, s4, s5, s6, s7, s8, s9, s10, s11, s12, s13, s14, s15, s16, s17, s18, s19⟩
                go_simp
                with_reducible rfl
              rotate_left
              · simp only [Act.put, List.setIfInBounds_toArray, List.set_cons_zero, List.set_cons_succ, i64_w, i32_w]
                rfl
              refine one_ (i := 25) (N := some 60) #[true, true, true, true, true, true, true, true, true, true, true, true, true, true, true, true, true, true, true, true, true, true, true, true, true, true, true, true, false, false, false, false, false, false, false, false] rfl rfl (one_of HT_.out (by kernel_rfl)) (by decide) (fun K hK => ?_)
              refine goes_ Try.func18 (by kernel_rfl) rfl #[.agg #[.int .i64 a0_0, .int .i64 a0_1, .bool a0_2, .bool a0_3, .int .i64 a0_4, .int .i64 a0_5, .int .i64 a0_6, .int .i64 a0_7, .int .i64 a0_8, .int .i64 a0_9], .int .i64 a1] (by rfl) rfl rfl (by (try simp only [List.map_toArray, List.map_cons, List.map_nil]); first | done | rfl | (simp only [List.length_drop, List.length_take]; rfl)) ?_
              with_reducible refine (format_Colour.calls a0_0 a0_1 a0_2 a0_3 a0_4 a0_5 a0_6 a0_7 a0_8 a0_9 a1 t373 _ A18.out).mono ?_
              rintro e w41 ⟨rfl, hb⟩
              refine ⟨_, rfl, ?_⟩
              have n0_ := Aside0.mk (blk_below (g := gb361) (o := .cells #[.int .i64 a0_0, .int .i64 a0_1, .bool a0_2, .bool a0_3, .int .i64 a0_4, .int .i64 a0_5, .int .i64 a0_6, .int .i64 a0_7, .int .i64 a0_8, .int .i64 a0_9] 23 (0, 0)) (by (with_reducible repeat (first | refine blk_drewN ?_ _ | refine blk_drew ?_ | refine blk_alloc ?_ _)); exact BK361.out) hb)
              have n1_ := Aside0.mk (blk_below (g := gb364) (o := .cells #[.int .i64 a0_0, .int .i64 a0_1, .bool (!a0_2), .bool a0_3, .int .i64 a0_4, .int .i64 a0_5, .int .i64 a0_6, .int .i64 a0_7, .int .i64 a0_8, .int .i64 a0_9] 23 (0, 0)) (by (with_reducible repeat (first | refine blk_drewN ?_ _ | refine blk_drew ?_ | refine blk_alloc ?_ _)); exact BK364.out) hb)
              have n2_ := Aside0.mk (below_step (by repeat (first | (with_reducible first | exact HB.out | apply below_alloc | apply pw_below_drewN | apply below_drew1 | refine below_set ?_ GE361.out | refine below_set ?_ GE364.out) | exact HB.out)) hb)
              clear BK361
              clear BK364
              clear HB
              have BK361 := n0_
              have BK364 := n1_
              have HB := n2_
              clear n0_ n1_ n2_
              (try clear hb)
              (try clear hb2)
              (try clear hk)
              (try clear hi)
              refine hK.out _ _ ⟨(blk_cell BK361.out 0).trans rfl, (blk_cell BK361.out 1).trans rfl, (blk_cell BK361.out 2).trans rfl, (blk_cell BK361.out 3).trans rfl, (blk_cell BK361.out 4).trans rfl, (blk_cell BK361.out 5).trans rfl, (blk_cell BK361.out 6).trans rfl, (blk_cell BK361.out 7).trans rfl, (blk_cell BK361.out 8).trans rfl, (blk_cell BK361.out 9).trans rfl, (blk_cell BK364.out 0).trans rfl, (blk_cell BK364.out 1).trans rfl, (blk_cell BK364.out 2).trans rfl, (blk_cell BK364.out 3).trans rfl, (blk_cell BK364.out 4).trans rfl, (blk_cell BK364.out 5).trans rfl, (blk_cell BK364.out 6).trans rfl, (blk_cell BK364.out 7).trans rfl, (blk_cell BK364.out 8).trans rfl, (blk_cell BK364.out 9).trans rfl⟩ (fun hHeld => ?_)
              clear hK K
              refine norm_ (a' := ?_) ?_ ?_
              rotate_left
              · show Act.put _ (some 60) _ = _
                simp only [Act.put, List.setIfInBounds_toArray, List.set_cons_zero, List.set_cons_succ, i64_w, i32_w]
                rfl
              refine one_ (i := 28) (N := some 63) #[true, true, true, true, true, true, true, true, true, true, true, true, true, true, true, true, true, true, true, true, true, true, true, true, true, true, true, true, true, false, false, false, false, false, false, false] rfl rfl (one_of HT_.out (by kernel_rfl)) (by decide) (fun K hK => ?_)
              refine goes_ Try.func18 (by kernel_rfl) rfl #[.agg #[.int .i64 a0_0, .int .i64 a0_1, .bool (!a0_2), .bool a0_3, .int .i64 a0_4, .int .i64 a0_5, .int .i64 a0_6, .int .i64 a0_7, .int .i64 a0_8, .int .i64 a0_9], .int .i64 a1] (by rfl) rfl rfl (by (try simp only [List.map_toArray, List.map_cons, List.map_nil]); first | done | rfl | (simp only [List.length_drop, List.length_take]; rfl)) ?_
              with_reducible refine (format_Colour.calls a0_0 a0_1 (!a0_2) a0_3 a0_4 a0_5 a0_6 a0_7 a0_8 a0_9 a1 t374 _ A19.out).mono ?_
              rintro e w42 ⟨rfl, hb⟩
              refine ⟨_, rfl, ?_⟩
              have n0_ := Aside0.mk (blk_below (g := gb361) (o := .cells #[.int .i64 a0_0, .int .i64 a0_1, .bool a0_2, .bool a0_3, .int .i64 a0_4, .int .i64 a0_5, .int .i64 a0_6, .int .i64 a0_7, .int .i64 a0_8, .int .i64 a0_9] 23 (0, 0)) (by (with_reducible repeat (first | refine blk_drewN ?_ _ | refine blk_drew ?_ | refine blk_alloc ?_ _)); exact BK361.out) hb)
              have n1_ := Aside0.mk (blk_below (g := gb364) (o := .cells #[.int .i64 a0_0, .int .i64 a0_1, .bool (!a0_2), .bool a0_3, .int .i64 a0_4, .int .i64 a0_5, .int .i64 a0_6, .int .i64 a0_7, .int .i64 a0_8, .int .i64 a0_9] 23 (0, 0)) (by (with_reducible repeat (first | refine blk_drewN ?_ _ | refine blk_drew ?_ | refine blk_alloc ?_ _)); exact BK364.out) hb)
              have n2_ := Aside0.mk (below_step (by repeat (first | (with_reducible first | exact HB.out | apply below_alloc | apply pw_below_drewN | apply below_drew1 | refine below_set ?_ GE361.out | refine below_set ?_ GE364.out) | exact HB.out)) hb)
              clear BK361
              clear BK364
              clear HB
              have BK361 := n0_
              have BK364 := n1_
              have HB := n2_
              clear n0_ n1_ n2_
              (try clear hb)
              (try clear hb2)
              (try clear hk)
              (try clear hi)
              refine hK.out _ _ ⟨(blk_cell BK361.out 0).trans rfl, (blk_cell BK361.out 1).trans rfl, (blk_cell BK361.out 2).trans rfl, (blk_cell BK361.out 3).trans rfl, (blk_cell BK361.out 4).trans rfl, (blk_cell BK361.out 5).trans rfl, (blk_cell BK361.out 6).trans rfl, (blk_cell BK361.out 7).trans rfl, (blk_cell BK361.out 8).trans rfl, (blk_cell BK361.out 9).trans rfl, (blk_cell BK364.out 0).trans rfl, (blk_cell BK364.out 1).trans rfl, (blk_cell BK364.out 2).trans rfl, (blk_cell BK364.out 3).trans rfl, (blk_cell BK364.out 4).trans rfl, (blk_cell BK364.out 5).trans rfl, (blk_cell BK364.out 6).trans rfl, (blk_cell BK364.out 7).trans rfl, (blk_cell BK364.out 8).trans rfl, (blk_cell BK364.out 9).trans rfl⟩ (fun hHeld => ?_)
              clear hK K
              refine norm_ (a' := ?_) ?_ ?_
              rotate_left
              · show Act.put _ (some 63) _ = _
                simp only [Act.put, List.setIfInBounds_toArray, List.set_cons_zero, List.set_cons_succ, i64_w, i32_w]
                rfl
              refine pure_ (i := 29) (N := some 64) (v := ?_) (a' := ?_) #[true, true, true, true, true, true, true, true, true, true, true, true, true, true, true, true, true, true, true, true, true, true, true, true, true, true, true, true, true, true, false, false, false, false, false, false] rfl rfl (any_of HT_.out (by kernel_rfl)) (fun _ _ _ h => h) (Or.inl ⟨by rfl, ?_⟩) ?_ ?_
              rotate_left
              · intro w'
                go_simp
                with_reducible rfl
              rotate_left
              · simp only [Act.put, List.setIfInBounds_toArray, List.set_cons_zero, List.set_cons_succ, i64_w, i32_w]
                rfl
              refine pure_ (i := 30) (N := some 65) (v := ?_) (a' := ?_) #[true, true, true, true, true, true, true, true, true, true, true, true, true, true, true, true, true, true, true, true, true, true, true, true, true, true, true, true, true, true, true, false, false, false, false, false] rfl rfl (any_of HT_.out (by kernel_rfl)) (fun _ _ _ h => h) (Or.inl ⟨by rfl, ?_⟩) ?_ ?_
              rotate_left
              · intro w'
                go_simp
                with_reducible rfl
              rotate_left
              · simp only [Act.put, List.setIfInBounds_toArray, List.set_cons_zero, List.set_cons_succ, i64_w, i32_w]
                rfl
              refine pure_ (i := 31) (N := some 66) (v := ?_) (a' := ?_) #[true, true, true, true, true, true, true, true, true, true, true, true, true, true, true, true, true, true, true, true, true, true, true, true, true, true, true, true, true, true, true, true, false, false, false, false] rfl rfl (any_of HT_.out (by kernel_rfl)) (fun _ _ _ h => h) (Or.inl ⟨by rfl, ?_⟩) ?_ ?_
              rotate_left
              · intro w'
                go_simp
                with_reducible rfl
              rotate_left
              · simp only [Act.put, List.setIfInBounds_toArray, List.set_cons_zero, List.set_cons_succ, i64_w, i32_w]
                rfl
              refine take_ (i := 32) (N := some 67) (v := ?_) (a' := ?_) #[true, true, true, true, true, true, true, true, true, true, true, true, true, true, true, true, true, true, true, true, true, true, true, true, true, true, true, true, true, true, true, true, true, false, false, false] rfl rfl (take_ofW HT_.out HW_.out (by kernel_rfl)) (fun _ _ _ h => h) (Or.inl ⟨by rfl, ?_⟩) hHeld ?_ ?_
              rotate_left
              · rintro w' ⟨s0, s1, s2, s3, s4, s5, s6, s7, s8, s9, s10, s11, s12, s13, s14, s15, s16, s17, s18, s19⟩
                go_simp
                with_reducible rfl
              rotate_left
              · simp only [Act.put, List.setIfInBounds_toArray, List.set_cons_zero, List.set_cons_succ, i64_w, i32_w]
                rfl
              refine one_ (i := 33) (N := some 68) #[true, true, true, true, true, true, true, true, true, true, true, true, true, true, true, true, true, true, true, true, true, true, true, true, true, true, true, true, true, true, true, true, true, true, false, false] rfl rfl (one_of HT_.out (by kernel_rfl)) (by decide) (fun K hK => ?_)
              refine goes_ Try.func11 (by kernel_rfl) rfl #[.agg #[.int .i64 a0_0, .int .i64 a0_1, .bool (!a0_2), .bool a0_3, .int .i64 a0_4, .int .i64 a0_5, .int .i64 a0_6, .int .i64 a0_7, .int .i64 a0_8, .int .i64 a0_9]] (by rfl) rfl rfl (by (try simp only [List.map_toArray, List.map_cons, List.map_nil]); first | done | rfl | (simp only [List.length_drop, List.length_take]; rfl)) ?_
              with_reducible refine (format_Valid.calls a0_0 a0_1 (!a0_2) a0_3 a0_4 a0_5 a0_6 a0_7 a0_8 a0_9 t375 _ A21.out).mono ?_
              rintro e w43 ⟨rfl, hb⟩
              refine ⟨_, rfl, ?_⟩
              have n0_ := Aside0.mk (blk_below (g := gb361) (o := .cells #[.int .i64 a0_0, .int .i64 a0_1, .bool a0_2, .bool a0_3, .int .i64 a0_4, .int .i64 a0_5, .int .i64 a0_6, .int .i64 a0_7, .int .i64 a0_8, .int .i64 a0_9] 23 (0, 0)) (by (with_reducible repeat (first | refine blk_drewN ?_ _ | refine blk_drew ?_ | refine blk_alloc ?_ _)); exact BK361.out) hb)
              have n1_ := Aside0.mk (blk_below (g := gb364) (o := .cells #[.int .i64 a0_0, .int .i64 a0_1, .bool (!a0_2), .bool a0_3, .int .i64 a0_4, .int .i64 a0_5, .int .i64 a0_6, .int .i64 a0_7, .int .i64 a0_8, .int .i64 a0_9] 23 (0, 0)) (by (with_reducible repeat (first | refine blk_drewN ?_ _ | refine blk_drew ?_ | refine blk_alloc ?_ _)); exact BK364.out) hb)
              have n2_ := Aside0.mk (below_step (by repeat (first | (with_reducible first | exact HB.out | apply below_alloc | apply pw_below_drewN | apply below_drew1 | refine below_set ?_ GE361.out | refine below_set ?_ GE364.out) | exact HB.out)) hb)
              clear BK361
              clear BK364
              clear HB
              have BK361 := n0_
              have BK364 := n1_
              have HB := n2_
              clear n0_ n1_ n2_
              (try clear hb)
              (try clear hb2)
              (try clear hk)
              (try clear hi)
              refine hK.out _ _ ⟨(blk_cell BK361.out 0).trans rfl, (blk_cell BK361.out 1).trans rfl, (blk_cell BK361.out 2).trans rfl, (blk_cell BK361.out 3).trans rfl, (blk_cell BK361.out 4).trans rfl, (blk_cell BK361.out 5).trans rfl, (blk_cell BK361.out 6).trans rfl, (blk_cell BK361.out 7).trans rfl, (blk_cell BK361.out 8).trans rfl, (blk_cell BK361.out 9).trans rfl, (blk_cell BK364.out 0).trans rfl, (blk_cell BK364.out 1).trans rfl, (blk_cell BK364.out 2).trans rfl, (blk_cell BK364.out 3).trans rfl, (blk_cell BK364.out 4).trans rfl, (blk_cell BK364.out 5).trans rfl, (blk_cell BK364.out 6).trans rfl, (blk_cell BK364.out 7).trans rfl, (blk_cell BK364.out 8).trans rfl, (blk_cell BK364.out 9).trans rfl⟩ (fun hHeld => ?_)
              clear hK K
              refine norm_ (a' := ?_) ?_ ?_
              rotate_left
              · show Act.put _ (some 68) _ = _
                simp only [Act.put, List.setIfInBounds_toArray, List.set_cons_zero, List.set_cons_succ, i64_w, i32_w]
                rfl
              refine pure_ (i := 34) (N := some 69) (v := ?_) (a' := ?_) #[true, true, true, true, true, true, true, true, true, true, true, true, true, true, true, true, true, true, true, true, true, true, true, true, true, true, true, true, true, true, true, true, true, true, true, false] rfl rfl (any_of HT_.out (by kernel_rfl)) (fun _ _ _ h => h) (Or.inl ⟨by rfl, ?_⟩) ?_ ?_
              rotate_left
              · intro w'
                go_simp
                with_reducible rfl
              rotate_left
              · simp only [Act.put, List.setIfInBounds_toArray, List.set_cons_zero, List.set_cons_succ, i64_w, i32_w]
                rfl
              refine pure_ (i := 35) (N := some 4) (v := ?_) (a' := ?_) #[true, true, true, true, true, true, true, true, true, true, true, true, true, true, true, true, true, true, true, true, true, true, true, true, true, true, true, true, true, true, true, true, true, true, true, true] rfl rfl (any_of HT_.out (by kernel_rfl)) (fun _ _ _ h => h) (Or.inl ⟨by rfl, ?_⟩) ?_ ?_
              rotate_left
              · intro w'
                go_simp
                with_reducible rfl
              rotate_left
              · simp only [Act.put, List.setIfInBounds_toArray, List.set_cons_zero, List.set_cons_succ, i64_w, i32_w]
                rfl
              refine done_ (done_of HT_.out (by kernel_rfl)) ?_
              try go_wp2
              go_ret
              exact ⟨by first | rfl | (simp [errW_none, errW_some] <;> rfl) | (simp [*, errW_none, errW_some] <;> rfl), by repeat (first | (with_reducible first | exact HB.out | apply below_alloc | apply pw_below_drewN | apply below_drew1 | refine below_set ?_ GE361.out | refine below_set ?_ GE364.out) | exact HB.out)⟩
            · rw [if_neg c20] at H
              have c20b0 : (t373 == t374) = false := beq_eq_false_iff_ne.mpr c20
              have c20b1 : (t373 != t374) = true := bne_iff_ne.mpr c20
              rw [HRT.out] at H
              exact absurd (Option.some.inj H) (by decide)
          · rw [if_neg c17] at H
            have c17b0 : (t371 == t372) = false := beq_eq_false_iff_ne.mpr c17
            have c17b1 : (t371 != t372) = true := bne_iff_ne.mpr c17
            rw [HRT.out] at H
            exact absurd (Option.some.inj H) (by decide)
        · rw [if_neg c14] at H
          have c14b0 : (t367.toList == t370.toList) = false := beq_eq_false_iff_ne.mpr c14
          have c14b1 : (t367.toList != t370.toList) = true := bne_iff_ne.mpr c14
          rw [HRT.out] at H
          exact absurd (Option.some.inj H) (by decide)
      · rw [if_neg c12] at H
        have c12b0 : (t365.toList == t369.toList) = false := beq_eq_false_iff_ne.mpr c12
        have c12b1 : (t365.toList != t369.toList) = true := bne_iff_ne.mpr c12
        rw [HRT.out] at H
        exact absurd (Option.some.inj H) (by decide)
    · replace c6 := Bool.eq_false_iff.mpr c6
      subst c6
      have H1 : (some true) = some r := by rw [if_neg (show ¬ (false = true) by decide)] at H; exact H
      clear H
      have H := H1
      clear H1
      obtain rfl := Option.some.inj H
      go_enter Try.func6, Try.ntmps6
      go_wp2_with (first | ((with_reducible refine gate_dst (N := 2) rfl ?_); refine box_event ?hg (N := 2) ?hd (cs := #[.int .i64 a0_0, .int .i64 a0_1, .bool a0_2, .bool a0_3, .int .i64 a0_4, .int .i64 a0_5, .int .i64 a0_6, .int .i64 a0_7, .int .i64 a0_8, .int .i64 a0_9]) (t := 23) ?hr ?_; (case hd => rfl); (case hg => rfl); (case hr => first | (go_simp; done) | (go_simp; rfl)); intro gb361 hg w44 hbox hb; have n0_ := Aside0.mk (below_step (by repeat (first | (with_reducible first | exact HB.out | apply below_alloc | apply pw_below_drewN | apply below_drew1) | exact HB.out)) hb); have n1_ := Aside0.mk (hbox); have n2_ := Aside0.mk ((by rw [hg]; exact (below_size (by repeat (first | (with_reducible first | exact HB.out | apply below_alloc | apply pw_below_drewN | apply below_drew1) | exact HB.out))) : w.heap.size ≤ gb361)); have n3_ := Aside0.mk ((by rw [hg]; exact (below_size (by repeat (first | (with_reducible first | exact HB.out | apply below_alloc | apply pw_below_drewN | apply below_drew1) | exact HB.out))) : w.heap.size ≤ gb361)); clear HB; have HB := n0_; have BK361 := n1_; have GW361 := n2_; have GE361 := n3_; clear n0_ n1_ n2_ n3_; clear hb hbox hg) | ((with_reducible refine gate_callee (f := 8) rfl ?_); refine goesL_ (some 11) rfl rfl Try.func8 (by kernel_rfl) rfl #[] rfl (by (try simp only [List.map_toArray, List.map_cons, List.map_nil]); first | done | rfl | (simp only [List.length_drop, List.length_take]; rfl)) ?_; (with_reducible refine (miradorlaw13_works.calls  true _ A3.out).mono ?_); rintro e w45 ⟨rfl, hb⟩; refine ⟨_, rfl, ?_⟩; have n0_ := Aside0.mk (blk_below (g := gb361) (o := .cells #[.int .i64 a0_0, .int .i64 a0_1, .bool a0_2, .bool a0_3, .int .i64 a0_4, .int .i64 a0_5, .int .i64 a0_6, .int .i64 a0_7, .int .i64 a0_8, .int .i64 a0_9] 23 (0, 0)) (by (with_reducible repeat (first | refine blk_drewN ?_ _ | refine blk_drew ?_ | refine blk_alloc ?_ _)); exact BK361.out) hb); have n1_ := Aside0.mk (below_step (by repeat (first | (with_reducible first | exact HB.out | apply below_alloc | apply pw_below_drewN | apply below_drew1 | refine below_set ?_ GE361.out) | exact HB.out)) hb); clear BK361; clear HB; have BK361 := n0_; have HB := n1_; clear n0_ n1_; (try clear hb); (try clear hb2); (try clear hk); (try clear hi); have hcz46_0 : w45.cell? ⟨gb361, 0, none⟩ = some (.int .i64 a0_0) := (blk_cell BK361.out 0).trans rfl; have hcz46_1 : w45.cell? ⟨gb361, 1, none⟩ = some (.int .i64 a0_1) := (blk_cell BK361.out 1).trans rfl; have hcz46_2 : w45.cell? ⟨gb361, 2, none⟩ = some (.bool a0_2) := (blk_cell BK361.out 2).trans rfl; have hcz46_3 : w45.cell? ⟨gb361, 3, none⟩ = some (.bool a0_3) := (blk_cell BK361.out 3).trans rfl; have hcz46_4 : w45.cell? ⟨gb361, 4, none⟩ = some (.int .i64 a0_4) := (blk_cell BK361.out 4).trans rfl; have hcz46_5 : w45.cell? ⟨gb361, 5, none⟩ = some (.int .i64 a0_5) := (blk_cell BK361.out 5).trans rfl; have hcz46_6 : w45.cell? ⟨gb361, 6, none⟩ = some (.int .i64 a0_6) := (blk_cell BK361.out 6).trans rfl; have hcz46_7 : w45.cell? ⟨gb361, 7, none⟩ = some (.int .i64 a0_7) := (blk_cell BK361.out 7).trans rfl; have hcz46_8 : w45.cell? ⟨gb361, 8, none⟩ = some (.int .i64 a0_8) := (blk_cell BK361.out 8).trans rfl; have hcz46_9 : w45.cell? ⟨gb361, 9, none⟩ = some (.int .i64 a0_9) := (blk_cell BK361.out 9).trans rfl; have hfz46_0 := blk_frozen BK361.out 0; have hfz46_1 := blk_frozen BK361.out 1; have hfz46_2 := blk_frozen BK361.out 2; have hfz46_3 := blk_frozen BK361.out 3; have hfz46_4 := blk_frozen BK361.out 4; have hfz46_5 := blk_frozen BK361.out 5; have hfz46_6 := blk_frozen BK361.out 6; have hfz46_7 := blk_frozen BK361.out 7; have hfz46_8 := blk_frozen BK361.out 8; have hfz46_9 := blk_frozen BK361.out 9) | ((with_reducible refine gate_callee (f := 11) rfl ?_); refine goesL_ (some 15) rfl rfl Try.func11 (by kernel_rfl) rfl #[.agg #[.int .i64 a0_0, .int .i64 a0_1, .bool a0_2, .bool a0_3, .int .i64 a0_4, .int .i64 a0_5, .int .i64 a0_6, .int .i64 a0_7, .int .i64 a0_8, .int .i64 a0_9]] rfl (by (try simp only [List.map_toArray, List.map_cons, List.map_nil]); first | done | rfl | (simp only [List.length_drop, List.length_take]; rfl)) ?_; (with_reducible refine (format_Valid.calls a0_0 a0_1 a0_2 a0_3 a0_4 a0_5 a0_6 a0_7 a0_8 a0_9 false _ A5.out).mono ?_); rintro e w47 ⟨rfl, hb⟩; refine ⟨_, rfl, ?_⟩; have n0_ := Aside0.mk (blk_below (g := gb361) (o := .cells #[.int .i64 a0_0, .int .i64 a0_1, .bool a0_2, .bool a0_3, .int .i64 a0_4, .int .i64 a0_5, .int .i64 a0_6, .int .i64 a0_7, .int .i64 a0_8, .int .i64 a0_9] 23 (0, 0)) (by (with_reducible repeat (first | refine blk_drewN ?_ _ | refine blk_drew ?_ | refine blk_alloc ?_ _)); exact BK361.out) hb); have n1_ := Aside0.mk (below_step (by repeat (first | (with_reducible first | exact HB.out | apply below_alloc | apply pw_below_drewN | apply below_drew1 | refine below_set ?_ GE361.out) | exact HB.out)) hb); clear BK361; clear HB; have BK361 := n0_; have HB := n1_; clear n0_ n1_; (try clear hb); (try clear hb2); (try clear hk); (try clear hi)))
      go_ret
      exact ⟨by first | rfl | (simp [errW_none, errW_some] <;> rfl) | (simp [*, errW_none, errW_some] <;> rfl), by repeat (first | (with_reducible first | exact HB.out | apply below_alloc | apply pw_below_drewN | apply below_drew1 | refine below_set ?_ GE361.out) | exact HB.out)⟩
  · replace c4 := Bool.eq_false_iff.mpr c4
    subst c4
    have H1 : (some false) = some r := by rw [if_neg (show ¬ (false = true) by decide)] at H; exact H
    clear H
    have H := H1
    clear H1
    rw [HRT.out] at H
    exact absurd (Option.some.inj H) (by decide)

/-! ### format_get: function 48 -/
def format_get.l0 : Nat → Int → ByteArray → Int → Int → Int → Int → Int → Bool → Bool → Int → Int → Int → Int → Int → Int → Option (Int × Int)
  | 0, _, _, _, _, _, _, _, _, _, _, _, _, _, _, _ => none
  | k + 1, x1, x2, x8, x20, x21, x377000, x377001, x377002, x377003, x377004, x377005, x377006, x377007, x377008, x377009 => if x21 < x20 then (if x377002 = true then (if 0 ≤ x21 then (if x21 < (x2.size : Int) then (format_get.l0 k x1 x2 (Go.bits .or .i64 (wrap64 (x8 * 256)) (wrap64 (bt x2 x21))) x20 (wrap64 (x21 + 1)) x377000 x377001 x377002 x377003 x377004 x377005 x377006 x377007 x377008 x377009) else (none)) else (none)) else (if 0 ≤ (wrap64 ((wrap64 (x1 - 1)) - x21)) then (if (wrap64 ((wrap64 (x1 - 1)) - x21)) < (x2.size : Int) then (format_get.l0 k x1 x2 (Go.bits .or .i64 (wrap64 (x8 * 256)) (wrap64 (bt x2 (wrap64 ((wrap64 (x1 - 1)) - x21))))) x20 (wrap64 (x21 + 1)) x377000 x377001 x377002 x377003 x377004 x377005 x377006 x377007 x377008 x377009) else (none)) else (none))) else (some (x8, 0))
def format_get.f (k : Nat) (a0_0 : Int) (a0_1 : Int) (a0_2 : Bool) (a0_3 : Bool) (a0_4 : Int) (a0_5 : Int) (a0_6 : Int) (a0_7 : Int) (a0_8 : Int) (a0_9 : Int) (a1 : Int) (a2 : ByteArray) : Option (Int × Int) := (format_Valid.f a0_0 a0_1 a0_2 a0_3 a0_4 a0_5 a0_6 a0_7 a0_8 a0_9).bind fun t377 => (if t377 = true then (if (a2.size : Int) < a1 then (some (0, 2)) else (format_get.l0 k a1 a2 0 a1 0 a0_0 a0_1 a0_2 a0_3 a0_4 a0_5 a0_6 a0_7 a0_8 a0_9)) else (some (0, 130)))
theorem format_get.mono_l : ∀ k, (∀ y0 y1 y2 y3 y4 y5 y6 y7 y8 y9 y10 y11 y12 y13 y14, LeO (format_get.l0 k y0 y1 y2 y3 y4 y5 y6 y7 y8 y9 y10 y11 y12 y13 y14) (format_get.l0 (k + 1) y0 y1 y2 y3 y4 y5 y6 y7 y8 y9 y10 y11 y12 y13 y14))
  | 0 => fun _ _ _ _ _ _ _ _ _ _ _ _ _ _ _ r h => by simp [format_get.l0] at h
  | k + 1 => by
    have ih0 := format_get.mono_l k
    · intro y0 y1 y2 y3 y4 y5 y6 y7 y8 y9 y10 y11 y12 y13 y14
      unfold format_get.l0
      repeat' first
      | (with_reducible exact ih0 _ _ _ _ _ _ _ _ _ _ _ _ _ _ _)
      | (with_reducible exact LeO.refl _)
      | (with_reducible exact LeO.none _)
      | (with_reducible refine LeO.ite ?_ ?_)
      | (with_reducible refine LeO.bind ?_ (fun _ => ?_))
      | exact ih0 _ _ _ _ _ _ _ _ _ _ _ _ _ _ _
      | exact LeO.none _
      | refine LeO.ite ?_ ?_
      | refine LeO.bind ?_ (fun _ => ?_)
theorem format_get.mono : ∀ a0 a1 a2 a3 a4 a5 a6 a7 a8 a9 a10 a11 k, LeO (format_get.f k a0 a1 a2 a3 a4 a5 a6 a7 a8 a9 a10 a11) (format_get.f (k + 1) a0 a1 a2 a3 a4 a5 a6 a7 a8 a9 a10 a11) := by
  intro a0 a1 a2 a3 a4 a5 a6 a7 a8 a9 a10 a11 k
  have ih0 := format_get.mono_l k
  unfold format_get.f
  repeat' first
      | (with_reducible exact ih0 _ _ _ _ _ _ _ _ _ _ _ _ _ _ _)
      | (with_reducible exact LeO.refl _)
      | (with_reducible exact LeO.none _)
      | (with_reducible refine LeO.ite ?_ ?_)
      | (with_reducible refine LeO.bind ?_ (fun _ => ?_))
      | exact ih0 _ _ _ _ _ _ _ _ _ _ _ _ _ _ _
      | exact LeO.none _
      | refine LeO.ite ?_ ?_
      | refine LeO.bind ?_ (fun _ => ?_)
set_option maxHeartbeats 8000000 in
set_option maxRecDepth 100000 in
theorem format_get.calls (k : Nat) (a0_0 : Int) (a0_1 : Int) (a0_2 : Bool) (a0_3 : Bool) (a0_4 : Int) (a0_5 : Int) (a0_6 : Int) (a0_7 : Int) (a0_8 : Int) (a0_9 : Int) (a1 : Int) (a2 : ByteArray) (r1 : Int) (r2 : Int) (w : World) (h : format_get.f k a0_0 a0_1 a0_2 a0_3 a0_4 a0_5 a0_6 a0_7 a0_8 a0_9 a1 a2 = some (r1, r2)) :
    Calls Try.prog 48 #[.agg #[.int .i64 a0_0, .int .i64 a0_1, .bool a0_2, .bool a0_3, .int .i64 a0_4, .int .i64 a0_5, .int .i64 a0_6, .int .i64 a0_7, .int .i64 a0_8, .int .i64 a0_9], .int .i64 a1, .string a2] w fun e w' => e = .returned (.tuple #[.int .i64 r1, .int .i64 r2]) ∧ Below w.heap.size w w' := by
  have hu23 := Try.underlying23
  have HB := Aside0.mk (Below.refl w.heap.size w)
  have H : ((format_Valid.f a0_0 a0_1 a0_2 a0_3 a0_4 a0_5 a0_6 a0_7 a0_8 a0_9).bind fun t377 => (if t377 = true then (if (a2.size : Int) < a1 then (some (0, 2)) else (format_get.l0 k a1 a2 0 a1 0 a0_0 a0_1 a0_2 a0_3 a0_4 a0_5 a0_6 a0_7 a0_8 a0_9)) else (some (0, 130)))) = some (r1, r2) := h
  clear h
  replace H := Option.bind_eq_some_iff.mp H
  obtain ⟨t377, A40, H⟩ := H
  replace H : (if t377 = true then (if (a2.size : Int) < a1 then (some (0, 2)) else (format_get.l0 k a1 a2 0 a1 0 a0_0 a0_1 a0_2 a0_3 a0_4 a0_5 a0_6 a0_7 a0_8 a0_9)) else (some (0, 130))) = some (r1, r2) := H
  have A4 := Aside0.mk A40
  clear A40
  by_cases c5 : t377 = true
  · subst c5
    have H1 : (if (a2.size : Int) < a1 then (some (0, 2)) else (format_get.l0 k a1 a2 0 a1 0 a0_0 a0_1 a0_2 a0_3 a0_4 a0_5 a0_6 a0_7 a0_8 a0_9)) = some (r1, r2) := by rw [if_pos rfl] at H; exact H
    clear H
    have H := H1
    clear H1
    by_cases c6 : (a2.size : Int) < a1
    · rw [if_pos c6] at H
      have c6b0 : decide ((a2.size : Int) < a1) = true := decide_eq_true c6
      clear c6
      simp only [Option.some.injEq, Prod.mk.injEq] at H
      obtain ⟨rfl, rfl⟩ := H
      go_enter Try.func48, Try.ntmps48
      go_wp2_with (first | ((with_reducible refine gate_dst (N := 3) rfl ?_); refine box_event ?hg (N := 3) ?hd (cs := #[.int .i64 a0_0, .int .i64 a0_1, .bool a0_2, .bool a0_3, .int .i64 a0_4, .int .i64 a0_5, .int .i64 a0_6, .int .i64 a0_7, .int .i64 a0_8, .int .i64 a0_9]) (t := 23) ?hr ?_; (case hd => rfl); (case hg => rfl); (case hr => first | (go_simp; done) | (go_simp; rfl)); intro gb376 hg w7 hbox hb; have n0_ := Aside0.mk (below_step (by repeat (first | (with_reducible first | exact HB.out | apply below_alloc | apply pw_below_drewN | apply below_drew1) | exact HB.out)) hb); have n1_ := Aside0.mk (hbox); have n2_ := Aside0.mk ((by rw [hg]; exact (below_size (by repeat (first | (with_reducible first | exact HB.out | apply below_alloc | apply pw_below_drewN | apply below_drew1) | exact HB.out))) : w.heap.size ≤ gb376)); have n3_ := Aside0.mk ((by rw [hg]; exact (below_size (by repeat (first | (with_reducible first | exact HB.out | apply below_alloc | apply pw_below_drewN | apply below_drew1) | exact HB.out))) : w.heap.size ≤ gb376)); clear HB; have HB := n0_; have BK376 := n1_; have GW376 := n2_; have GE376 := n3_; clear n0_ n1_ n2_ n3_; clear hb hbox hg; have hcz8_0 : w7.cell? ⟨gb376, 0, none⟩ = some (.int .i64 a0_0) := (blk_cell BK376.out 0).trans rfl; have hcz8_1 : w7.cell? ⟨gb376, 1, none⟩ = some (.int .i64 a0_1) := (blk_cell BK376.out 1).trans rfl; have hcz8_2 : w7.cell? ⟨gb376, 2, none⟩ = some (.bool a0_2) := (blk_cell BK376.out 2).trans rfl; have hcz8_3 : w7.cell? ⟨gb376, 3, none⟩ = some (.bool a0_3) := (blk_cell BK376.out 3).trans rfl; have hcz8_4 : w7.cell? ⟨gb376, 4, none⟩ = some (.int .i64 a0_4) := (blk_cell BK376.out 4).trans rfl; have hcz8_5 : w7.cell? ⟨gb376, 5, none⟩ = some (.int .i64 a0_5) := (blk_cell BK376.out 5).trans rfl; have hcz8_6 : w7.cell? ⟨gb376, 6, none⟩ = some (.int .i64 a0_6) := (blk_cell BK376.out 6).trans rfl; have hcz8_7 : w7.cell? ⟨gb376, 7, none⟩ = some (.int .i64 a0_7) := (blk_cell BK376.out 7).trans rfl; have hcz8_8 : w7.cell? ⟨gb376, 8, none⟩ = some (.int .i64 a0_8) := (blk_cell BK376.out 8).trans rfl; have hcz8_9 : w7.cell? ⟨gb376, 9, none⟩ = some (.int .i64 a0_9) := (blk_cell BK376.out 9).trans rfl; have hfz8_0 := blk_frozen BK376.out 0; have hfz8_1 := blk_frozen BK376.out 1; have hfz8_2 := blk_frozen BK376.out 2; have hfz8_3 := blk_frozen BK376.out 3; have hfz8_4 := blk_frozen BK376.out 4; have hfz8_5 := blk_frozen BK376.out 5; have hfz8_6 := blk_frozen BK376.out 6; have hfz8_7 := blk_frozen BK376.out 7; have hfz8_8 := blk_frozen BK376.out 8; have hfz8_9 := blk_frozen BK376.out 9) | ((with_reducible refine gate_callee (f := 11) rfl ?_); refine goesL_ (some 13) rfl rfl Try.func11 (by kernel_rfl) rfl #[.agg #[.int .i64 a0_0, .int .i64 a0_1, .bool a0_2, .bool a0_3, .int .i64 a0_4, .int .i64 a0_5, .int .i64 a0_6, .int .i64 a0_7, .int .i64 a0_8, .int .i64 a0_9]] rfl (by (try simp only [List.map_toArray, List.map_cons, List.map_nil]); first | done | rfl | (simp only [List.length_drop, List.length_take]; rfl)) ?_; (with_reducible refine (format_Valid.calls a0_0 a0_1 a0_2 a0_3 a0_4 a0_5 a0_6 a0_7 a0_8 a0_9 true _ A4.out).mono ?_); rintro e w9 ⟨rfl, hb⟩; refine ⟨_, rfl, ?_⟩; have n0_ := Aside0.mk (blk_below (g := gb376) (o := .cells #[.int .i64 a0_0, .int .i64 a0_1, .bool a0_2, .bool a0_3, .int .i64 a0_4, .int .i64 a0_5, .int .i64 a0_6, .int .i64 a0_7, .int .i64 a0_8, .int .i64 a0_9] 23 (0, 0)) (by (with_reducible repeat (first | refine blk_drewN ?_ _ | refine blk_drew ?_ | refine blk_alloc ?_ _)); exact BK376.out) hb); have n1_ := Aside0.mk (below_step (by repeat (first | (with_reducible first | exact HB.out | apply below_alloc | apply pw_below_drewN | apply below_drew1 | refine below_set ?_ GE376.out) | exact HB.out)) hb); clear BK376; clear HB; have BK376 := n0_; have HB := n1_; clear n0_ n1_; (try clear hb); (try clear hb2); (try clear hk); (try clear hi)))
      go_ret2
      exact ⟨by first | rfl | (simp [errW_none, errW_some] <;> rfl) | (simp [*, errW_none, errW_some] <;> rfl), by repeat (first | (with_reducible first | exact HB.out | apply below_alloc | apply pw_below_drewN | apply below_drew1 | refine below_set ?_ GE376.out) | exact HB.out)⟩
    · rw [if_neg c6] at H
      have c6b0 : decide ((a2.size : Int) < a1) = false := decide_eq_false c6
      clear c6
      have H' := Aside0.mk H
      clear H
      go_enter Try.func48, Try.ntmps48
      go_wp2_with (first | ((with_reducible refine gate_dst (N := 3) rfl ?_); refine box_event ?hg (N := 3) ?hd (cs := #[.int .i64 a0_0, .int .i64 a0_1, .bool a0_2, .bool a0_3, .int .i64 a0_4, .int .i64 a0_5, .int .i64 a0_6, .int .i64 a0_7, .int .i64 a0_8, .int .i64 a0_9]) (t := 23) ?hr ?_; (case hd => rfl); (case hg => rfl); (case hr => first | (go_simp; done) | (go_simp; rfl)); intro gb376 hg w10 hbox hb; have n0_ := Aside0.mk (below_step (by repeat (first | (with_reducible first | exact HB.out | apply below_alloc | apply pw_below_drewN | apply below_drew1) | exact HB.out)) hb); have n1_ := Aside0.mk (hbox); have n2_ := Aside0.mk ((by rw [hg]; exact (below_size (by repeat (first | (with_reducible first | exact HB.out | apply below_alloc | apply pw_below_drewN | apply below_drew1) | exact HB.out))) : w.heap.size ≤ gb376)); have n3_ := Aside0.mk ((by rw [hg]; exact (below_size (by repeat (first | (with_reducible first | exact HB.out | apply below_alloc | apply pw_below_drewN | apply below_drew1) | exact HB.out))) : w.heap.size ≤ gb376)); clear HB; have HB := n0_; have BK376 := n1_; have GW376 := n2_; have GE376 := n3_; clear n0_ n1_ n2_ n3_; clear hb hbox hg; have hcz11_0 : w10.cell? ⟨gb376, 0, none⟩ = some (.int .i64 a0_0) := (blk_cell BK376.out 0).trans rfl; have hcz11_1 : w10.cell? ⟨gb376, 1, none⟩ = some (.int .i64 a0_1) := (blk_cell BK376.out 1).trans rfl; have hcz11_2 : w10.cell? ⟨gb376, 2, none⟩ = some (.bool a0_2) := (blk_cell BK376.out 2).trans rfl; have hcz11_3 : w10.cell? ⟨gb376, 3, none⟩ = some (.bool a0_3) := (blk_cell BK376.out 3).trans rfl; have hcz11_4 : w10.cell? ⟨gb376, 4, none⟩ = some (.int .i64 a0_4) := (blk_cell BK376.out 4).trans rfl; have hcz11_5 : w10.cell? ⟨gb376, 5, none⟩ = some (.int .i64 a0_5) := (blk_cell BK376.out 5).trans rfl; have hcz11_6 : w10.cell? ⟨gb376, 6, none⟩ = some (.int .i64 a0_6) := (blk_cell BK376.out 6).trans rfl; have hcz11_7 : w10.cell? ⟨gb376, 7, none⟩ = some (.int .i64 a0_7) := (blk_cell BK376.out 7).trans rfl; have hcz11_8 : w10.cell? ⟨gb376, 8, none⟩ = some (.int .i64 a0_8) := (blk_cell BK376.out 8).trans rfl; have hcz11_9 : w10.cell? ⟨gb376, 9, none⟩ = some (.int .i64 a0_9) := (blk_cell BK376.out 9).trans rfl; have hfz11_0 := blk_frozen BK376.out 0; have hfz11_1 := blk_frozen BK376.out 1; have hfz11_2 := blk_frozen BK376.out 2; have hfz11_3 := blk_frozen BK376.out 3; have hfz11_4 := blk_frozen BK376.out 4; have hfz11_5 := blk_frozen BK376.out 5; have hfz11_6 := blk_frozen BK376.out 6; have hfz11_7 := blk_frozen BK376.out 7; have hfz11_8 := blk_frozen BK376.out 8; have hfz11_9 := blk_frozen BK376.out 9) | ((with_reducible refine gate_callee (f := 11) rfl ?_); refine goesL_ (some 13) rfl rfl Try.func11 (by kernel_rfl) rfl #[.agg #[.int .i64 a0_0, .int .i64 a0_1, .bool a0_2, .bool a0_3, .int .i64 a0_4, .int .i64 a0_5, .int .i64 a0_6, .int .i64 a0_7, .int .i64 a0_8, .int .i64 a0_9]] rfl (by (try simp only [List.map_toArray, List.map_cons, List.map_nil]); first | done | rfl | (simp only [List.length_drop, List.length_take]; rfl)) ?_; (with_reducible refine (format_Valid.calls a0_0 a0_1 a0_2 a0_3 a0_4 a0_5 a0_6 a0_7 a0_8 a0_9 true _ A4.out).mono ?_); rintro e w12 ⟨rfl, hb⟩; refine ⟨_, rfl, ?_⟩; have n0_ := Aside0.mk (blk_below (g := gb376) (o := .cells #[.int .i64 a0_0, .int .i64 a0_1, .bool a0_2, .bool a0_3, .int .i64 a0_4, .int .i64 a0_5, .int .i64 a0_6, .int .i64 a0_7, .int .i64 a0_8, .int .i64 a0_9] 23 (0, 0)) (by (with_reducible repeat (first | refine blk_drewN ?_ _ | refine blk_drew ?_ | refine blk_alloc ?_ _)); exact BK376.out) hb); have n1_ := Aside0.mk (below_step (by repeat (first | (with_reducible first | exact HB.out | apply below_alloc | apply pw_below_drewN | apply below_drew1 | refine below_set ?_ GE376.out) | exact HB.out)) hb); clear BK376; clear HB; have BK376 := n0_; have HB := n1_; clear n0_ n1_; (try clear hb); (try clear hb2); (try clear hk); (try clear hi)))
      go_loopg [8, 21] k (fun kq v8 v21 w' => ∃ (x8_1 : Int) (x21_1 : Int), v8 = .int .i64 x8_1 ∧ v21 = .int .i64 x21_1 ∧ Aside0 (format_get.l0 kq a1 a2 x8_1 a1 x21_1 a0_0 a0_1 a0_2 a0_3 a0_4 a0_5 a0_6 a0_7 a0_8 a0_9 = some (r1, r2)) ∧ Aside0 (kq ≤ k) ∧ Aside0 (w'.heap[gb376]? = some (.cells #[.int .i64 a0_0, .int .i64 a0_1, .bool a0_2, .bool a0_3, .int .i64 a0_4, .int .i64 a0_5, .int .i64 a0_6, .int .i64 a0_7, .int .i64 a0_8, .int .i64 a0_9] 23 (0, 0))) ∧ Aside0 (Below w.heap.size w w'))
      case atStart => exact ⟨(0), (0), (by first | rfl | (simp; done) | (simp [*]; done)), (by first | rfl | (simp; done) | (simp [*]; done)), H', ⟨Nat.le_refl _⟩, ⟨by (with_reducible repeat (first | refine blk_drewN ?_ _ | refine blk_drew ?_ | refine blk_alloc ?_ _)); exact BK376.out⟩, ⟨by repeat (first | (with_reducible first | exact HB.out | apply below_alloc | apply pw_below_drewN | apply below_drew1 | refine below_set ?_ GE376.out) | exact HB.out)⟩⟩
      case round =>
        clear H'
        try clear c1
        try clear p2
        try clear c4
        try clear c5
        try clear c6
        try clear c6b0
        try clear c11
        try clear hcz11_0
        try clear hcz11_1
        try clear hcz11_2
        try clear hcz11_3
        try clear hcz11_4
        try clear hcz11_5
        try clear hcz11_6
        try clear hcz11_7
        try clear hcz11_8
        try clear hcz11_9
        try clear hcz8_0
        try clear hcz8_1
        try clear hcz8_2
        try clear hcz8_3
        try clear hcz8_4
        try clear hcz8_5
        try clear hcz8_6
        try clear hcz8_7
        try clear hcz8_8
        try clear hcz8_9
        try clear hfz11_0
        try clear hfz11_1
        try clear hfz11_2
        try clear hfz11_3
        try clear hfz11_4
        try clear hfz11_5
        try clear hfz11_6
        try clear hfz11_7
        try clear hfz11_8
        try clear hfz11_9
        try clear hfz8_0
        try clear hfz8_1
        try clear hfz8_2
        try clear hfz8_3
        try clear hfz8_4
        try clear hfz8_5
        try clear hfz8_6
        try clear hfz8_7
        try clear hfz8_8
        try clear hfz8_9
        obtain ⟨x8_1, x21_1, rfl, rfl, HA, HK1, BK376, HB⟩ := hrel
        cases gk with
        | zero => exact absurd HA.out (by simp [format_get.l0])
        | succ k1 =>
          have H := HA.out
          clear HA
          simp only [format_get.l0] at H
          by_cases c13 : x21_1 < a1
          · rw [if_pos c13] at H
            have c13b0 : decide (x21_1 < a1) = true := decide_eq_true c13
            clear c13
            by_cases c14 : a0_2 = true
            · subst c14
              have H1 : (if 0 ≤ x21_1 then (if x21_1 < (a2.size : Int) then (format_get.l0 k1 a1 a2 (Go.bits .or .i64 (wrap64 (x8_1 * 256)) (wrap64 (bt a2 x21_1))) a1 (wrap64 (x21_1 + 1)) a0_0 a0_1 true a0_3 a0_4 a0_5 a0_6 a0_7 a0_8 a0_9) else (none)) else (none)) = some (r1, r2) := by rw [if_pos rfl] at H; exact H
              clear H
              have H := H1
              clear H1
              by_cases c15 : 0 ≤ x21_1
              · rw [if_pos c15] at H
                have c15b0 : decide (0 ≤ x21_1) = true := decide_eq_true c15
                clear c15
                by_cases c16 : x21_1 < (a2.size : Int)
                · rw [if_pos c16] at H
                  have c16b0 : decide (x21_1 < (a2.size : Int)) = true := decide_eq_true c16
                  clear c16
                  have H' := Aside0.mk H
                  clear H
                  have hcz18_0 : wr.cell? ⟨gb376, 0, none⟩ = some (.int .i64 a0_0) := (blk_cell BK376.out 0).trans rfl
                  have hcz18_1 : wr.cell? ⟨gb376, 1, none⟩ = some (.int .i64 a0_1) := (blk_cell BK376.out 1).trans rfl
                  have hcz18_2 : wr.cell? ⟨gb376, 2, none⟩ = some (.bool true) := (blk_cell BK376.out 2).trans rfl
                  have hcz18_3 : wr.cell? ⟨gb376, 3, none⟩ = some (.bool a0_3) := (blk_cell BK376.out 3).trans rfl
                  have hcz18_4 : wr.cell? ⟨gb376, 4, none⟩ = some (.int .i64 a0_4) := (blk_cell BK376.out 4).trans rfl
                  have hcz18_5 : wr.cell? ⟨gb376, 5, none⟩ = some (.int .i64 a0_5) := (blk_cell BK376.out 5).trans rfl
                  have hcz18_6 : wr.cell? ⟨gb376, 6, none⟩ = some (.int .i64 a0_6) := (blk_cell BK376.out 6).trans rfl
                  have hcz18_7 : wr.cell? ⟨gb376, 7, none⟩ = some (.int .i64 a0_7) := (blk_cell BK376.out 7).trans rfl
                  have hcz18_8 : wr.cell? ⟨gb376, 8, none⟩ = some (.int .i64 a0_8) := (blk_cell BK376.out 8).trans rfl
                  have hcz18_9 : wr.cell? ⟨gb376, 9, none⟩ = some (.int .i64 a0_9) := (blk_cell BK376.out 9).trans rfl
                  have hfz18_0 := blk_frozen BK376.out 0
                  have hfz18_1 := blk_frozen BK376.out 1
                  have hfz18_2 := blk_frozen BK376.out 2
                  have hfz18_3 := blk_frozen BK376.out 3
                  have hfz18_4 := blk_frozen BK376.out 4
                  have hfz18_5 := blk_frozen BK376.out 5
                  have hfz18_6 := blk_frozen BK376.out 6
                  have hfz18_7 := blk_frozen BK376.out 7
                  have hfz18_8 := blk_frozen BK376.out 8
                  have hfz18_9 := blk_frozen BK376.out 9
                  have p17 : 0 ≤ (x21_1 : Int) := of_decide_eq_true (by first | (with_reducible assumption) | assumption)
                  have q17 : x21_1 < (a2.size : Int) := of_decide_eq_true (by first | (with_reducible assumption) | assumption)
                  have hx17 := bt_at a2 x21_1
                  replace p17 := eq_true p17
                  replace q17 := eq_true q17
                  go_wp2
                  go_roundg k1
                  case measure => have := HK1.out; omega
                  case rel => exact ⟨(Go.bits .or .i64 (wrap64 (x8_1 * 256)) (wrap64 (bt a2 x21_1))), (wrap64 (x21_1 + 1)), (by first | rfl | (simp; done) | (simp [*]; done)), (by first | rfl | (simp; done) | (simp [*]; done)), H', ⟨by have := HK1.out; omega⟩, ⟨by (with_reducible repeat (first | refine blk_drewN ?_ _ | refine blk_drew ?_ | refine blk_alloc ?_ _)); exact BK376.out⟩, ⟨by repeat (first | (with_reducible first | exact HB.out | apply below_alloc | apply pw_below_drewN | apply below_drew1 | refine below_set ?_ GE376.out) | exact HB.out)⟩⟩
                · rw [if_neg c16] at H
                  exact absurd H (by simp)
              · rw [if_neg c15] at H
                exact absurd H (by simp)
            · replace c14 := Bool.eq_false_iff.mpr c14
              subst c14
              have H1 : (if 0 ≤ (wrap64 ((wrap64 (a1 - 1)) - x21_1)) then (if (wrap64 ((wrap64 (a1 - 1)) - x21_1)) < (a2.size : Int) then (format_get.l0 k1 a1 a2 (Go.bits .or .i64 (wrap64 (x8_1 * 256)) (wrap64 (bt a2 (wrap64 ((wrap64 (a1 - 1)) - x21_1))))) a1 (wrap64 (x21_1 + 1)) a0_0 a0_1 false a0_3 a0_4 a0_5 a0_6 a0_7 a0_8 a0_9) else (none)) else (none)) = some (r1, r2) := by rw [if_neg (show ¬ (false = true) by decide)] at H; exact H
              clear H
              have H := H1
              clear H1
              obtain ⟨ji19, hji19⟩ : ∃ j_ : Int, (wrap64 ((wrap64 (a1 - 1)) - x21_1)) = j_ := ⟨_, rfl⟩
              replace H : (if 0 ≤ (ji19) then (if (ji19) < (a2.size : Int) then (format_get.l0 k1 a1 a2 (Go.bits .or .i64 (wrap64 (x8_1 * 256)) (wrap64 (bt a2 (ji19)))) a1 (wrap64 (x21_1 + 1)) a0_0 a0_1 false a0_3 a0_4 a0_5 a0_6 a0_7 a0_8 a0_9) else (none)) else (none)) = some (r1, r2) := by first | (rw [hji19] at H; exact H) | (simp only [hji19] at H ⊢; exact H)
              have hji19w : (IntKind.i64.wrap ((wrap64 (a1 - 1)) - x21_1)) = ji19 := (i64_w _).trans hji19
              by_cases c20 : 0 ≤ (ji19)
              · rw [if_pos c20] at H
                have c20b0 : decide (0 ≤ (ji19)) = true := decide_eq_true c20
                clear c20
                by_cases c21 : (ji19) < (a2.size : Int)
                · rw [if_pos c21] at H
                  have c21b0 : decide ((ji19) < (a2.size : Int)) = true := decide_eq_true c21
                  clear c21
                  have H' := Aside0.mk H
                  clear H
                  have hcz23_0 : wr.cell? ⟨gb376, 0, none⟩ = some (.int .i64 a0_0) := (blk_cell BK376.out 0).trans rfl
                  have hcz23_1 : wr.cell? ⟨gb376, 1, none⟩ = some (.int .i64 a0_1) := (blk_cell BK376.out 1).trans rfl
                  have hcz23_2 : wr.cell? ⟨gb376, 2, none⟩ = some (.bool false) := (blk_cell BK376.out 2).trans rfl
                  have hcz23_3 : wr.cell? ⟨gb376, 3, none⟩ = some (.bool a0_3) := (blk_cell BK376.out 3).trans rfl
                  have hcz23_4 : wr.cell? ⟨gb376, 4, none⟩ = some (.int .i64 a0_4) := (blk_cell BK376.out 4).trans rfl
                  have hcz23_5 : wr.cell? ⟨gb376, 5, none⟩ = some (.int .i64 a0_5) := (blk_cell BK376.out 5).trans rfl
                  have hcz23_6 : wr.cell? ⟨gb376, 6, none⟩ = some (.int .i64 a0_6) := (blk_cell BK376.out 6).trans rfl
                  have hcz23_7 : wr.cell? ⟨gb376, 7, none⟩ = some (.int .i64 a0_7) := (blk_cell BK376.out 7).trans rfl
                  have hcz23_8 : wr.cell? ⟨gb376, 8, none⟩ = some (.int .i64 a0_8) := (blk_cell BK376.out 8).trans rfl
                  have hcz23_9 : wr.cell? ⟨gb376, 9, none⟩ = some (.int .i64 a0_9) := (blk_cell BK376.out 9).trans rfl
                  have hfz23_0 := blk_frozen BK376.out 0
                  have hfz23_1 := blk_frozen BK376.out 1
                  have hfz23_2 := blk_frozen BK376.out 2
                  have hfz23_3 := blk_frozen BK376.out 3
                  have hfz23_4 := blk_frozen BK376.out 4
                  have hfz23_5 := blk_frozen BK376.out 5
                  have hfz23_6 := blk_frozen BK376.out 6
                  have hfz23_7 := blk_frozen BK376.out 7
                  have hfz23_8 := blk_frozen BK376.out 8
                  have hfz23_9 := blk_frozen BK376.out 9
                  have p22 : 0 ≤ ((ji19) : Int) := of_decide_eq_true (by first | (with_reducible assumption) | assumption)
                  have q22 : (ji19) < (a2.size : Int) := of_decide_eq_true (by first | (with_reducible assumption) | assumption)
                  have hx22 := bt_at a2 (ji19)
                  replace p22 := eq_true p22
                  replace q22 := eq_true q22
                  go_wp2
                  go_roundg k1
                  case measure => have := HK1.out; omega
                  case rel => exact ⟨(Go.bits .or .i64 (wrap64 (x8_1 * 256)) (wrap64 (bt a2 (ji19)))), (wrap64 (x21_1 + 1)), (by first | rfl | (simp; done) | (simp only [← hji19] <;> (first | rfl | simp)) | (simp [*]; done)), (by first | rfl | (simp; done) | (simp [*]; done)), H', ⟨by have := HK1.out; omega⟩, ⟨by (with_reducible repeat (first | refine blk_drewN ?_ _ | refine blk_drew ?_ | refine blk_alloc ?_ _)); exact BK376.out⟩, ⟨by repeat (first | (with_reducible first | exact HB.out | apply below_alloc | apply pw_below_drewN | apply below_drew1 | refine below_set ?_ GE376.out) | exact HB.out)⟩⟩
                · rw [if_neg c21] at H
                  exact absurd H (by simp)
              · rw [if_neg c20] at H
                exact absurd H (by simp)
          · rw [if_neg c13] at H
            have c13b0 : decide (x21_1 < a1) = false := decide_eq_false c13
            clear c13
            simp only [Option.some.injEq, Prod.mk.injEq] at H
            obtain ⟨rfl, rfl⟩ := H
            go_wp2
            go_ret2
            exact ⟨by first | rfl | (simp [errW_none, errW_some] <;> rfl) | (simp [*, errW_none, errW_some] <;> rfl), by repeat (first | (with_reducible first | exact HB.out | apply below_alloc | apply pw_below_drewN | apply below_drew1 | refine below_set ?_ GE376.out) | exact HB.out)⟩
  · replace c5 := Bool.eq_false_iff.mpr c5
    subst c5
    have H1 : (some (0, 130)) = some (r1, r2) := by rw [if_neg (show ¬ (false = true) by decide)] at H; exact H
    clear H
    have H := H1
    clear H1
    simp only [Option.some.injEq, Prod.mk.injEq] at H
    obtain ⟨rfl, rfl⟩ := H
    go_enter Try.func48, Try.ntmps48
    go_wp2_with (first | ((with_reducible refine gate_dst (N := 3) rfl ?_); refine box_event ?hg (N := 3) ?hd (cs := #[.int .i64 a0_0, .int .i64 a0_1, .bool a0_2, .bool a0_3, .int .i64 a0_4, .int .i64 a0_5, .int .i64 a0_6, .int .i64 a0_7, .int .i64 a0_8, .int .i64 a0_9]) (t := 23) ?hr ?_; (case hd => rfl); (case hg => rfl); (case hr => first | (go_simp; done) | (go_simp; rfl)); intro gb376 hg w24 hbox hb; have n0_ := Aside0.mk (below_step (by repeat (first | (with_reducible first | exact HB.out | apply below_alloc | apply pw_below_drewN | apply below_drew1) | exact HB.out)) hb); have n1_ := Aside0.mk (hbox); have n2_ := Aside0.mk ((by rw [hg]; exact (below_size (by repeat (first | (with_reducible first | exact HB.out | apply below_alloc | apply pw_below_drewN | apply below_drew1) | exact HB.out))) : w.heap.size ≤ gb376)); have n3_ := Aside0.mk ((by rw [hg]; exact (below_size (by repeat (first | (with_reducible first | exact HB.out | apply below_alloc | apply pw_below_drewN | apply below_drew1) | exact HB.out))) : w.heap.size ≤ gb376)); clear HB; have HB := n0_; have BK376 := n1_; have GW376 := n2_; have GE376 := n3_; clear n0_ n1_ n2_ n3_; clear hb hbox hg; have hcz25_0 : w24.cell? ⟨gb376, 0, none⟩ = some (.int .i64 a0_0) := (blk_cell BK376.out 0).trans rfl; have hcz25_1 : w24.cell? ⟨gb376, 1, none⟩ = some (.int .i64 a0_1) := (blk_cell BK376.out 1).trans rfl; have hcz25_2 : w24.cell? ⟨gb376, 2, none⟩ = some (.bool a0_2) := (blk_cell BK376.out 2).trans rfl; have hcz25_3 : w24.cell? ⟨gb376, 3, none⟩ = some (.bool a0_3) := (blk_cell BK376.out 3).trans rfl; have hcz25_4 : w24.cell? ⟨gb376, 4, none⟩ = some (.int .i64 a0_4) := (blk_cell BK376.out 4).trans rfl; have hcz25_5 : w24.cell? ⟨gb376, 5, none⟩ = some (.int .i64 a0_5) := (blk_cell BK376.out 5).trans rfl; have hcz25_6 : w24.cell? ⟨gb376, 6, none⟩ = some (.int .i64 a0_6) := (blk_cell BK376.out 6).trans rfl; have hcz25_7 : w24.cell? ⟨gb376, 7, none⟩ = some (.int .i64 a0_7) := (blk_cell BK376.out 7).trans rfl; have hcz25_8 : w24.cell? ⟨gb376, 8, none⟩ = some (.int .i64 a0_8) := (blk_cell BK376.out 8).trans rfl; have hcz25_9 : w24.cell? ⟨gb376, 9, none⟩ = some (.int .i64 a0_9) := (blk_cell BK376.out 9).trans rfl; have hfz25_0 := blk_frozen BK376.out 0; have hfz25_1 := blk_frozen BK376.out 1; have hfz25_2 := blk_frozen BK376.out 2; have hfz25_3 := blk_frozen BK376.out 3; have hfz25_4 := blk_frozen BK376.out 4; have hfz25_5 := blk_frozen BK376.out 5; have hfz25_6 := blk_frozen BK376.out 6; have hfz25_7 := blk_frozen BK376.out 7; have hfz25_8 := blk_frozen BK376.out 8; have hfz25_9 := blk_frozen BK376.out 9) | ((with_reducible refine gate_callee (f := 11) rfl ?_); refine goesL_ (some 13) rfl rfl Try.func11 (by kernel_rfl) rfl #[.agg #[.int .i64 a0_0, .int .i64 a0_1, .bool a0_2, .bool a0_3, .int .i64 a0_4, .int .i64 a0_5, .int .i64 a0_6, .int .i64 a0_7, .int .i64 a0_8, .int .i64 a0_9]] rfl (by (try simp only [List.map_toArray, List.map_cons, List.map_nil]); first | done | rfl | (simp only [List.length_drop, List.length_take]; rfl)) ?_; (with_reducible refine (format_Valid.calls a0_0 a0_1 a0_2 a0_3 a0_4 a0_5 a0_6 a0_7 a0_8 a0_9 false _ A4.out).mono ?_); rintro e w26 ⟨rfl, hb⟩; refine ⟨_, rfl, ?_⟩; have n0_ := Aside0.mk (blk_below (g := gb376) (o := .cells #[.int .i64 a0_0, .int .i64 a0_1, .bool a0_2, .bool a0_3, .int .i64 a0_4, .int .i64 a0_5, .int .i64 a0_6, .int .i64 a0_7, .int .i64 a0_8, .int .i64 a0_9] 23 (0, 0)) (by (with_reducible repeat (first | refine blk_drewN ?_ _ | refine blk_drew ?_ | refine blk_alloc ?_ _)); exact BK376.out) hb); have n1_ := Aside0.mk (below_step (by repeat (first | (with_reducible first | exact HB.out | apply below_alloc | apply pw_below_drewN | apply below_drew1 | refine below_set ?_ GE376.out) | exact HB.out)) hb); clear BK376; clear HB; have BK376 := n0_; have HB := n1_; clear n0_ n1_; (try clear hb); (try clear hb2); (try clear hk); (try clear hi)))
    go_ret2
    exact ⟨by first | rfl | (simp [errW_none, errW_some] <;> rfl) | (simp [*, errW_none, errW_some] <;> rfl), by repeat (first | (with_reducible first | exact HB.out | apply below_alloc | apply pw_below_drewN | apply below_drew1 | refine below_set ?_ GE376.out) | exact HB.out)⟩

end Go.Proofs.Ytaielfghgmghgaa.X
