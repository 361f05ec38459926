/- What each Go function that these laws use answers: as a Lean function, with the proof that the machine's call comes to it. Written by a program of this session (xprint.py). -/
import Derived.Test.YtpackckoblpbfaaXx0
import Derived.Test.YtpackckoblpbfaaXx3
import Derived.Test.YtpackckoblpbfaaXx7
import Derived.Test.YtpackckoblpbfaaXx10
import Derived.Test.YtpackckoblpbfaaXx11
namespace Go.Proofs.Ytpackckoblpbfaa.X
open Go.RowKit Go.Proofs.YtpackckoblpbfaaW.PrintWords Go.Proofs.YtpackckoblpbfaaW.PrintLast Go.Proofs.YtpackckoblpbfaaW.PrintMore
attribute [local go_sem] max2_int min2_int max_two min_two max_three min_three max_four min_four   -- for this text's walks alone
set_option linter.unusedVariables false
set_option linter.unusedSimpArgs false

/-! ### servermsg_Bytes: function 11 -/
theorem servermsg_Bytes_low {B B' : Nat} {W W' : World} (h : Below B W W') (hl : B' ≤ B) : Below B' W W' := ⟨h.os, h.tape, h.output, h.size, fun k hk => h.block k (by omega)⟩
def servermsg_Bytes.f (a0_0 : Int) (a0_1 : Int) (a0_2 : Int) (a0_3 : Int) (a0_4 : Bool) (a0_5 : Bool) (a0_6 : Int) (a0_7 : Int) (a0_8 : Int) (a0_9 : Int) (a0_10 : Int) (a0_11 : Int) (a0_12 : ByteArray) : Option (ByteArray × Int) := if a0_12.size ≤ 140737488351232 then (format_Valid.f a0_2 a0_3 a0_4 a0_5 a0_6 a0_7 a0_8 a0_9 a0_10 a0_11).bind fun b => (wInts 2 [a0_0, a0_1] ([], errW1 (decide (a0_0 ≠ 0 ∧ a0_1 ≠ 0)) 1 (errW1 b 130 0))).bind fun st => (format_Bytes.f a0_2 a0_3 a0_4 a0_5 a0_6 a0_7 a0_8 a0_9 a0_10 a0_11).bind fun s => if st.1.length + s.size ≤ 140737488351232 then (wText (st.1 ++ s.data.toList, st.2) a0_12).bind fun st2 => some (doneS st2) else none else none
set_option maxHeartbeats 4000000 in
set_option maxRecDepth 100000 in
theorem servermsg_Bytes.calls (a0_0 : Int) (a0_1 : Int) (a0_2 : Int) (a0_3 : Int) (a0_4 : Bool) (a0_5 : Bool) (a0_6 : Int) (a0_7 : Int) (a0_8 : Int) (a0_9 : Int) (a0_10 : Int) (a0_11 : Int) (a0_12 : ByteArray) (r1 : ByteArray) (r2 : Int) (w : World) (h : servermsg_Bytes.f a0_0 a0_1 a0_2 a0_3 a0_4 a0_5 a0_6 a0_7 a0_8 a0_9 a0_10 a0_11 a0_12 = some (r1, r2)) :
  Calls Try.prog 11 #[.agg #[.int .i64 a0_0, .int .i64 a0_1, .int .i64 a0_2, .int .i64 a0_3, .bool a0_4, .bool a0_5, .int .i64 a0_6, .int .i64 a0_7, .int .i64 a0_8, .int .i64 a0_9, .int .i64 a0_10, .int .i64 a0_11, .string a0_12]] w fun e w' => e = .returned (.tuple #[.string r1, .int .i64 r2]) ∧ Below w.heap.size w w' := by
 unfold servermsg_Bytes.f at h
 by_cases hlen : a0_12.size ≤ 140737488351232
 case neg => rw [if_neg hlen] at h; cases h
 rw [if_pos hlen] at h
 obtain ⟨b, e0, h⟩ := Option.bind_eq_some_iff.1 h
 obtain ⟨st, e1, h⟩ := Option.bind_eq_some_iff.1 h
 obtain ⟨s, e2, h⟩ := Option.bind_eq_some_iff.1 h
 by_cases hsz : st.1.length + s.size ≤ 140737488351232
 case neg => rw [if_neg hsz] at h; cases h
 rw [if_pos hsz] at h
 obtain ⟨st2, e3, h⟩ := Option.bind_eq_some_iff.1 h
 have h := Option.some.inj h
 obtain ⟨rfl, rfl⟩ : (doneS st2).1 = r1 ∧ (doneS st2).2 = r2 := by rw [h]; exact ⟨rfl, rfl⟩
 have E0 := Lib.hid e0
 have E1 := Lib.hid e1
 have E2 := Lib.hid e2
 have E3 := Lib.hid e3
 have HSZ := Lib.hid hsz
 have HLEN := Lib.hid hlen
 clear h e0 e1 e2 e3 hsz hlen
 obtain ⟨W0, hW0⟩ : ∃ W0, (w.alloc (.cells #[.int .i64 a0_0, .int .i64 a0_1, .int .i64 a0_2, .int .i64 a0_3, .bool a0_4, .bool a0_5, .int .i64 a0_6, .int .i64 a0_7, .int .i64 a0_8, .int .i64 a0_9, .int .i64 a0_10, .int .i64 a0_11, .string a0_12] 26)).alloc (.cells #[.pointer none, .slice none 0 0, .int .i64 0] 76) = W0 := ⟨_, rfl⟩
 have HX0 := Lib.hid (show W0.heap[w.heap.size]? = some (.cells #[.int .i64 a0_0, .int .i64 a0_1, .int .i64 a0_2, .int .i64 a0_3, .bool a0_4, .bool a0_5, .int .i64 a0_6, .int .i64 a0_7, .int .i64 a0_8, .int .i64 a0_9, .int .i64 a0_10, .int .i64 a0_11, .string a0_12] 26 (0, 0)) from by rw [← hW0]; exact (Below.heap_alloc _ _ _ (by simp)).trans (heap_alloc_new w _))
 have HB0 := Lib.hid (show Below (w.heap.size + 1) W0 W0 from Below.refl _ _)
 have HBW := Lib.hid (show Below w.heap.size w W0 from by rw [← hW0]; exact below_alloc (below_alloc (Below.refl _ _) _) _)
 have HL0 := Lib.hid (show (w.heap.size + 1) ≤ W0.heap.size from by rw [← hW0]; simp)
 have HW0 := Lib.hid (show Wr (w.heap.size + 1) (w.heap.size + 1) [] 0 none W0 from Wr.new (by rw [← hW0]; have h0 := heap_alloc_new (w.alloc (.cells #[.int .i64 a0_0, .int .i64 a0_1, .int .i64 a0_2, .int .i64 a0_3, .bool a0_4, .bool a0_5, .int .i64 a0_6, .int .i64 a0_7, .int .i64 a0_8, .int .i64 a0_9, .int .i64 a0_10, .int .i64 a0_11, .string a0_12] 26)) (.cells #[.pointer none, .slice none 0 0, .int .i64 0] 76); rw [World.size_alloc] at h0; exact h0) (Nat.le_refl _))
 have y0 : W0.cell? ⟨w.heap.size, 0, none⟩ = some (.int .i64 a0_0) := by rw [World.cell?, HX0.out]; rfl
 have y1 : W0.cell? ⟨w.heap.size, 1, none⟩ = some (.int .i64 a0_1) := by rw [World.cell?, HX0.out]; rfl
 have y2 : W0.cell? ⟨w.heap.size, 2, none⟩ = some (.int .i64 a0_2) := by rw [World.cell?, HX0.out]; rfl
 have y3 : W0.cell? ⟨w.heap.size, 3, none⟩ = some (.int .i64 a0_3) := by rw [World.cell?, HX0.out]; rfl
 have y4 : W0.cell? ⟨w.heap.size, 4, none⟩ = some (.bool a0_4) := by rw [World.cell?, HX0.out]; rfl
 have y5 : W0.cell? ⟨w.heap.size, 5, none⟩ = some (.bool a0_5) := by rw [World.cell?, HX0.out]; rfl
 have y6 : W0.cell? ⟨w.heap.size, 6, none⟩ = some (.int .i64 a0_6) := by rw [World.cell?, HX0.out]; rfl
 have y7 : W0.cell? ⟨w.heap.size, 7, none⟩ = some (.int .i64 a0_7) := by rw [World.cell?, HX0.out]; rfl
 have y8 : W0.cell? ⟨w.heap.size, 8, none⟩ = some (.int .i64 a0_8) := by rw [World.cell?, HX0.out]; rfl
 have y9 : W0.cell? ⟨w.heap.size, 9, none⟩ = some (.int .i64 a0_9) := by rw [World.cell?, HX0.out]; rfl
 have y10 : W0.cell? ⟨w.heap.size, 10, none⟩ = some (.int .i64 a0_10) := by rw [World.cell?, HX0.out]; rfl
 have y11 : W0.cell? ⟨w.heap.size, 11, none⟩ = some (.int .i64 a0_11) := by rw [World.cell?, HX0.out]; rfl
 have y12 : W0.cell? ⟨w.heap.size, 12, none⟩ = some (.string a0_12) := by rw [World.cell?, HX0.out]; rfl
 by_cases ha : a0_0 = 0
 ·have HD := Lib.hid (show decide (a0_0 ≠ 0 ∧ a0_1 ≠ 0) = false from decide_eq_false (fun h => h.1 ha))
  have ha1 : (a0_0 != 0) = false := by simpa using ha
  have HA := Lib.hid ha
  clear ha
  go_enter Try.func11, Try.ntmps11
  go_wp2_with fail
  try rw [hW0]
  clear hW0
  refine (format_Valid.calls a0_2 a0_3 a0_4 a0_5 a0_6 a0_7 a0_8 a0_9 a0_10 a0_11 b W0 E0.out).mono ?_
  rintro en W1 ⟨rfl, h3⟩
  have HW1 := Lib.hid (HW0.out.below h3)
  have HB1 := Lib.hid (HB0.out.trans (h3.mono HL0.out))
  have HL1 := Lib.hid (Nat.le_trans HL0.out HB1.out.size)
  have HX1 := Lib.hid ((HB1.out.block w.heap.size (by omega)).trans HX0.out)
  clear h3
  clear y0 y1 y2 y3 y4 y5 y6 y7 y8 y9 y10 y11 y12
  have y0 : W1.cell? ⟨w.heap.size, 0, none⟩ = some (.int .i64 a0_0) := by rw [World.cell?, HX1.out]; rfl
  have y1 : W1.cell? ⟨w.heap.size, 1, none⟩ = some (.int .i64 a0_1) := by rw [World.cell?, HX1.out]; rfl
  have y2 : W1.cell? ⟨w.heap.size, 2, none⟩ = some (.int .i64 a0_2) := by rw [World.cell?, HX1.out]; rfl
  have y3 : W1.cell? ⟨w.heap.size, 3, none⟩ = some (.int .i64 a0_3) := by rw [World.cell?, HX1.out]; rfl
  have y4 : W1.cell? ⟨w.heap.size, 4, none⟩ = some (.bool a0_4) := by rw [World.cell?, HX1.out]; rfl
  have y5 : W1.cell? ⟨w.heap.size, 5, none⟩ = some (.bool a0_5) := by rw [World.cell?, HX1.out]; rfl
  have y6 : W1.cell? ⟨w.heap.size, 6, none⟩ = some (.int .i64 a0_6) := by rw [World.cell?, HX1.out]; rfl
  have y7 : W1.cell? ⟨w.heap.size, 7, none⟩ = some (.int .i64 a0_7) := by rw [World.cell?, HX1.out]; rfl
  have y8 : W1.cell? ⟨w.heap.size, 8, none⟩ = some (.int .i64 a0_8) := by rw [World.cell?, HX1.out]; rfl
  have y9 : W1.cell? ⟨w.heap.size, 9, none⟩ = some (.int .i64 a0_9) := by rw [World.cell?, HX1.out]; rfl
  have y10 : W1.cell? ⟨w.heap.size, 10, none⟩ = some (.int .i64 a0_10) := by rw [World.cell?, HX1.out]; rfl
  have y11 : W1.cell? ⟨w.heap.size, 11, none⟩ = some (.int .i64 a0_11) := by rw [World.cell?, HX1.out]; rfl
  have y12 : W1.cell? ⟨w.heap.size, 12, none⟩ = some (.string a0_12) := by rw [World.cell?, HX1.out]; rfl
  go_wp2_with fail
  refine (check_c (w.heap.size + 1) (w.heap.size + 1) [] 0 none b 130 W1 HW1.out).mono ?_
  rintro en W2 ⟨rfl, h1, h3, h4⟩
  have HW2 := Lib.hid h1
  have HB2 := Lib.hid (HB1.out.trans (h3))
  have HL2 := Lib.hid (Nat.le_trans HL0.out HB2.out.size)
  have HX2 := Lib.hid ((HB2.out.block w.heap.size (by omega)).trans HX0.out)
  clear h1 h3 h4
  clear y0 y1 y2 y3 y4 y5 y6 y7 y8 y9 y10 y11 y12
  have y0 : W2.cell? ⟨w.heap.size, 0, none⟩ = some (.int .i64 a0_0) := by rw [World.cell?, HX2.out]; rfl
  have y1 : W2.cell? ⟨w.heap.size, 1, none⟩ = some (.int .i64 a0_1) := by rw [World.cell?, HX2.out]; rfl
  have y2 : W2.cell? ⟨w.heap.size, 2, none⟩ = some (.int .i64 a0_2) := by rw [World.cell?, HX2.out]; rfl
  have y3 : W2.cell? ⟨w.heap.size, 3, none⟩ = some (.int .i64 a0_3) := by rw [World.cell?, HX2.out]; rfl
  have y4 : W2.cell? ⟨w.heap.size, 4, none⟩ = some (.bool a0_4) := by rw [World.cell?, HX2.out]; rfl
  have y5 : W2.cell? ⟨w.heap.size, 5, none⟩ = some (.bool a0_5) := by rw [World.cell?, HX2.out]; rfl
  have y6 : W2.cell? ⟨w.heap.size, 6, none⟩ = some (.int .i64 a0_6) := by rw [World.cell?, HX2.out]; rfl
  have y7 : W2.cell? ⟨w.heap.size, 7, none⟩ = some (.int .i64 a0_7) := by rw [World.cell?, HX2.out]; rfl
  have y8 : W2.cell? ⟨w.heap.size, 8, none⟩ = some (.int .i64 a0_8) := by rw [World.cell?, HX2.out]; rfl
  have y9 : W2.cell? ⟨w.heap.size, 9, none⟩ = some (.int .i64 a0_9) := by rw [World.cell?, HX2.out]; rfl
  have y10 : W2.cell? ⟨w.heap.size, 10, none⟩ = some (.int .i64 a0_10) := by rw [World.cell?, HX2.out]; rfl
  have y11 : W2.cell? ⟨w.heap.size, 11, none⟩ = some (.int .i64 a0_11) := by rw [World.cell?, HX2.out]; rfl
  have y12 : W2.cell? ⟨w.heap.size, 12, none⟩ = some (.string a0_12) := by rw [World.cell?, HX2.out]; rfl
  go_wp2_with fail
  refine (check_c (w.heap.size + 1) (w.heap.size + 1) [] (errW1 b 130 0) none false 1 W2 HW2.out).mono ?_
  rintro en W3 ⟨rfl, h1, h3, h4⟩
  have HW3 := Lib.hid h1
  have HB3 := Lib.hid (HB2.out.trans (h3))
  have HL3 := Lib.hid (Nat.le_trans HL0.out HB3.out.size)
  have HX3 := Lib.hid ((HB3.out.block w.heap.size (by omega)).trans HX0.out)
  clear h1 h3 h4
  clear y0 y1 y2 y3 y4 y5 y6 y7 y8 y9 y10 y11 y12
  have y0 : W3.cell? ⟨w.heap.size, 0, none⟩ = some (.int .i64 a0_0) := by rw [World.cell?, HX3.out]; rfl
  have y1 : W3.cell? ⟨w.heap.size, 1, none⟩ = some (.int .i64 a0_1) := by rw [World.cell?, HX3.out]; rfl
  have y2 : W3.cell? ⟨w.heap.size, 2, none⟩ = some (.int .i64 a0_2) := by rw [World.cell?, HX3.out]; rfl
  have y3 : W3.cell? ⟨w.heap.size, 3, none⟩ = some (.int .i64 a0_3) := by rw [World.cell?, HX3.out]; rfl
  have y4 : W3.cell? ⟨w.heap.size, 4, none⟩ = some (.bool a0_4) := by rw [World.cell?, HX3.out]; rfl
  have y5 : W3.cell? ⟨w.heap.size, 5, none⟩ = some (.bool a0_5) := by rw [World.cell?, HX3.out]; rfl
  have y6 : W3.cell? ⟨w.heap.size, 6, none⟩ = some (.int .i64 a0_6) := by rw [World.cell?, HX3.out]; rfl
  have y7 : W3.cell? ⟨w.heap.size, 7, none⟩ = some (.int .i64 a0_7) := by rw [World.cell?, HX3.out]; rfl
  have y8 : W3.cell? ⟨w.heap.size, 8, none⟩ = some (.int .i64 a0_8) := by rw [World.cell?, HX3.out]; rfl
  have y9 : W3.cell? ⟨w.heap.size, 9, none⟩ = some (.int .i64 a0_9) := by rw [World.cell?, HX3.out]; rfl
  have y10 : W3.cell? ⟨w.heap.size, 10, none⟩ = some (.int .i64 a0_10) := by rw [World.cell?, HX3.out]; rfl
  have y11 : W3.cell? ⟨w.heap.size, 11, none⟩ = some (.int .i64 a0_11) := by rw [World.cell?, HX3.out]; rfl
  have y12 : W3.cell? ⟨w.heap.size, 12, none⟩ = some (.string a0_12) := by rw [World.cell?, HX3.out]; rfl
  go_wp2_with fail
  refine (ints_c (w.heap.size + 1) (w.heap.size + 1) [] (errW1 false 1 (errW1 b 130 0)) none 2 (some ⟨W3.heap.size, 0, none⟩) 2 [a0_0, a0_1] st _ (HW3.out.below (below_alloc (Below.refl _ _) _)) (by have := HL3.out; simp; omega) (by simp) (fresh_row [a0_0, a0_1] (by simp) HW3.out.lt (fun k hk => (HW3.out.row_ k hk).2) _ rfl) (by have := E1.out; rw [HD.out] at this; exact this)).mono ?_
  rintro en W4 ⟨rfl, row4, h1, h2, h3, h4⟩
  have HW4 := Lib.hid h1
  have HB4 := Lib.hid (HB3.out.trans ((below_alloc (Below.refl W3.heap.size W3) _).mono HL3.out |>.trans h3))
  have HL4 := Lib.hid (Nat.le_trans HL0.out HB4.out.size)
  have HX4 := Lib.hid ((HB4.out.block w.heap.size (by omega)).trans HX0.out)
  clear h1 h2 h3 h4
  clear y0 y1 y2 y3 y4 y5 y6 y7 y8 y9 y10 y11 y12
  have y0 : W4.cell? ⟨w.heap.size, 0, none⟩ = some (.int .i64 a0_0) := by rw [World.cell?, HX4.out]; rfl
  have y1 : W4.cell? ⟨w.heap.size, 1, none⟩ = some (.int .i64 a0_1) := by rw [World.cell?, HX4.out]; rfl
  have y2 : W4.cell? ⟨w.heap.size, 2, none⟩ = some (.int .i64 a0_2) := by rw [World.cell?, HX4.out]; rfl
  have y3 : W4.cell? ⟨w.heap.size, 3, none⟩ = some (.int .i64 a0_3) := by rw [World.cell?, HX4.out]; rfl
  have y4 : W4.cell? ⟨w.heap.size, 4, none⟩ = some (.bool a0_4) := by rw [World.cell?, HX4.out]; rfl
  have y5 : W4.cell? ⟨w.heap.size, 5, none⟩ = some (.bool a0_5) := by rw [World.cell?, HX4.out]; rfl
  have y6 : W4.cell? ⟨w.heap.size, 6, none⟩ = some (.int .i64 a0_6) := by rw [World.cell?, HX4.out]; rfl
  have y7 : W4.cell? ⟨w.heap.size, 7, none⟩ = some (.int .i64 a0_7) := by rw [World.cell?, HX4.out]; rfl
  have y8 : W4.cell? ⟨w.heap.size, 8, none⟩ = some (.int .i64 a0_8) := by rw [World.cell?, HX4.out]; rfl
  have y9 : W4.cell? ⟨w.heap.size, 9, none⟩ = some (.int .i64 a0_9) := by rw [World.cell?, HX4.out]; rfl
  have y10 : W4.cell? ⟨w.heap.size, 10, none⟩ = some (.int .i64 a0_10) := by rw [World.cell?, HX4.out]; rfl
  have y11 : W4.cell? ⟨w.heap.size, 11, none⟩ = some (.int .i64 a0_11) := by rw [World.cell?, HX4.out]; rfl
  have y12 : W4.cell? ⟨w.heap.size, 12, none⟩ = some (.string a0_12) := by rw [World.cell?, HX4.out]; rfl
  go_wp2_with fail
  refine (format_Bytes.calls a0_2 a0_3 a0_4 a0_5 a0_6 a0_7 a0_8 a0_9 a0_10 a0_11 s W4 E2.out).mono ?_
  rintro en W5 ⟨rfl, h3⟩
  have HW5 := Lib.hid (HW4.out.below h3)
  have HB5 := Lib.hid (HB4.out.trans (h3.mono HL4.out))
  have HL5 := Lib.hid (Nat.le_trans HL0.out HB5.out.size)
  have HX5 := Lib.hid ((HB5.out.block w.heap.size (by omega)).trans HX0.out)
  clear h3
  clear y0 y1 y2 y3 y4 y5 y6 y7 y8 y9 y10 y11 y12
  have y0 : W5.cell? ⟨w.heap.size, 0, none⟩ = some (.int .i64 a0_0) := by rw [World.cell?, HX5.out]; rfl
  have y1 : W5.cell? ⟨w.heap.size, 1, none⟩ = some (.int .i64 a0_1) := by rw [World.cell?, HX5.out]; rfl
  have y2 : W5.cell? ⟨w.heap.size, 2, none⟩ = some (.int .i64 a0_2) := by rw [World.cell?, HX5.out]; rfl
  have y3 : W5.cell? ⟨w.heap.size, 3, none⟩ = some (.int .i64 a0_3) := by rw [World.cell?, HX5.out]; rfl
  have y4 : W5.cell? ⟨w.heap.size, 4, none⟩ = some (.bool a0_4) := by rw [World.cell?, HX5.out]; rfl
  have y5 : W5.cell? ⟨w.heap.size, 5, none⟩ = some (.bool a0_5) := by rw [World.cell?, HX5.out]; rfl
  have y6 : W5.cell? ⟨w.heap.size, 6, none⟩ = some (.int .i64 a0_6) := by rw [World.cell?, HX5.out]; rfl
  have y7 : W5.cell? ⟨w.heap.size, 7, none⟩ = some (.int .i64 a0_7) := by rw [World.cell?, HX5.out]; rfl
  have y8 : W5.cell? ⟨w.heap.size, 8, none⟩ = some (.int .i64 a0_8) := by rw [World.cell?, HX5.out]; rfl
  have y9 : W5.cell? ⟨w.heap.size, 9, none⟩ = some (.int .i64 a0_9) := by rw [World.cell?, HX5.out]; rfl
  have y10 : W5.cell? ⟨w.heap.size, 10, none⟩ = some (.int .i64 a0_10) := by rw [World.cell?, HX5.out]; rfl
  have y11 : W5.cell? ⟨w.heap.size, 11, none⟩ = some (.int .i64 a0_11) := by rw [World.cell?, HX5.out]; rfl
  have y12 : W5.cell? ⟨w.heap.size, 12, none⟩ = some (.string a0_12) := by rw [World.cell?, HX5.out]; rfl
  go_wp2_with fail
  refine (write_c (w.heap.size + 1) (w.heap.size + 1) st.1 st.2 row4 s W5 HW5.out (by have := HSZ.out; omega) HL5.out).mono ?_
  rintro en W6 ⟨rfl, row6, h1, h2, h3, h4⟩
  have HW6 := Lib.hid h1
  have HB6 := Lib.hid (HB5.out.trans (h3))
  have HL6 := Lib.hid (Nat.le_trans HL0.out HB6.out.size)
  have HX6 := Lib.hid ((HB6.out.block w.heap.size (by omega)).trans HX0.out)
  clear h1 h2 h3 h4
  clear y0 y1 y2 y3 y4 y5 y6 y7 y8 y9 y10 y11 y12
  have y0 : W6.cell? ⟨w.heap.size, 0, none⟩ = some (.int .i64 a0_0) := by rw [World.cell?, HX6.out]; rfl
  have y1 : W6.cell? ⟨w.heap.size, 1, none⟩ = some (.int .i64 a0_1) := by rw [World.cell?, HX6.out]; rfl
  have y2 : W6.cell? ⟨w.heap.size, 2, none⟩ = some (.int .i64 a0_2) := by rw [World.cell?, HX6.out]; rfl
  have y3 : W6.cell? ⟨w.heap.size, 3, none⟩ = some (.int .i64 a0_3) := by rw [World.cell?, HX6.out]; rfl
  have y4 : W6.cell? ⟨w.heap.size, 4, none⟩ = some (.bool a0_4) := by rw [World.cell?, HX6.out]; rfl
  have y5 : W6.cell? ⟨w.heap.size, 5, none⟩ = some (.bool a0_5) := by rw [World.cell?, HX6.out]; rfl
  have y6 : W6.cell? ⟨w.heap.size, 6, none⟩ = some (.int .i64 a0_6) := by rw [World.cell?, HX6.out]; rfl
  have y7 : W6.cell? ⟨w.heap.size, 7, none⟩ = some (.int .i64 a0_7) := by rw [World.cell?, HX6.out]; rfl
  have y8 : W6.cell? ⟨w.heap.size, 8, none⟩ = some (.int .i64 a0_8) := by rw [World.cell?, HX6.out]; rfl
  have y9 : W6.cell? ⟨w.heap.size, 9, none⟩ = some (.int .i64 a0_9) := by rw [World.cell?, HX6.out]; rfl
  have y10 : W6.cell? ⟨w.heap.size, 10, none⟩ = some (.int .i64 a0_10) := by rw [World.cell?, HX6.out]; rfl
  have y11 : W6.cell? ⟨w.heap.size, 11, none⟩ = some (.int .i64 a0_11) := by rw [World.cell?, HX6.out]; rfl
  have y12 : W6.cell? ⟨w.heap.size, 12, none⟩ = some (.string a0_12) := by rw [World.cell?, HX6.out]; rfl
  go_wp2_with fail
  refine (text_c (w.heap.size + 1) (w.heap.size + 1) (st.1 ++ s.data.toList) st.2 row6 a0_12 st2 W6 HW6.out HL6.out HLEN.out E3.out).mono ?_
  rintro en W7 ⟨rfl, row7, h1, h2, h3, h4⟩
  have HW7 := Lib.hid h1
  have HB7 := Lib.hid (HB6.out.trans (h3))
  have HL7 := Lib.hid (Nat.le_trans HL0.out HB7.out.size)
  have HX7 := Lib.hid ((HB7.out.block w.heap.size (by omega)).trans HX0.out)
  clear h1 h2 h3 h4
  clear y0 y1 y2 y3 y4 y5 y6 y7 y8 y9 y10 y11 y12
  have y0 : W7.cell? ⟨w.heap.size, 0, none⟩ = some (.int .i64 a0_0) := by rw [World.cell?, HX7.out]; rfl
  have y1 : W7.cell? ⟨w.heap.size, 1, none⟩ = some (.int .i64 a0_1) := by rw [World.cell?, HX7.out]; rfl
  have y2 : W7.cell? ⟨w.heap.size, 2, none⟩ = some (.int .i64 a0_2) := by rw [World.cell?, HX7.out]; rfl
  have y3 : W7.cell? ⟨w.heap.size, 3, none⟩ = some (.int .i64 a0_3) := by rw [World.cell?, HX7.out]; rfl
  have y4 : W7.cell? ⟨w.heap.size, 4, none⟩ = some (.bool a0_4) := by rw [World.cell?, HX7.out]; rfl
  have y5 : W7.cell? ⟨w.heap.size, 5, none⟩ = some (.bool a0_5) := by rw [World.cell?, HX7.out]; rfl
  have y6 : W7.cell? ⟨w.heap.size, 6, none⟩ = some (.int .i64 a0_6) := by rw [World.cell?, HX7.out]; rfl
  have y7 : W7.cell? ⟨w.heap.size, 7, none⟩ = some (.int .i64 a0_7) := by rw [World.cell?, HX7.out]; rfl
  have y8 : W7.cell? ⟨w.heap.size, 8, none⟩ = some (.int .i64 a0_8) := by rw [World.cell?, HX7.out]; rfl
  have y9 : W7.cell? ⟨w.heap.size, 9, none⟩ = some (.int .i64 a0_9) := by rw [World.cell?, HX7.out]; rfl
  have y10 : W7.cell? ⟨w.heap.size, 10, none⟩ = some (.int .i64 a0_10) := by rw [World.cell?, HX7.out]; rfl
  have y11 : W7.cell? ⟨w.heap.size, 11, none⟩ = some (.int .i64 a0_11) := by rw [World.cell?, HX7.out]; rfl
  have y12 : W7.cell? ⟨w.heap.size, 12, none⟩ = some (.string a0_12) := by rw [World.cell?, HX7.out]; rfl
  go_wp2_with fail
  refine (done_c (w.heap.size + 1) (w.heap.size + 1) (st2.1, st2.2) row7 W7 HW7.out HL7.out).mono ?_
  rintro en Wz ⟨rfl, h3⟩
  have HBz := Lib.hid (HBW.out.trans (servermsg_Bytes_low (HB7.out.trans h3) (Nat.le_succ _)))
  clear h3
  go_wp2_with fail
  go_ret2
  exact ⟨rfl, HBz.out⟩
 ·have ha1 : (a0_0 != 0) = true := by simpa using ha
  by_cases hb : a0_1 = 0
  ·have HD := Lib.hid (show decide (a0_0 ≠ 0 ∧ a0_1 ≠ 0) = false from decide_eq_false (fun h => h.2 hb))
   have hb1 : (a0_1 != 0) = false := by simpa using hb
   clear ha hb
   go_enter Try.func11, Try.ntmps11
   go_wp2_with fail
   try rw [hW0]
   clear hW0
   refine (format_Valid.calls a0_2 a0_3 a0_4 a0_5 a0_6 a0_7 a0_8 a0_9 a0_10 a0_11 b W0 E0.out).mono ?_
   rintro en W1 ⟨rfl, h3⟩
   have HW1 := Lib.hid (HW0.out.below h3)
   have HB1 := Lib.hid (HB0.out.trans (h3.mono HL0.out))
   have HL1 := Lib.hid (Nat.le_trans HL0.out HB1.out.size)
   have HX1 := Lib.hid ((HB1.out.block w.heap.size (by omega)).trans HX0.out)
   clear h3
   clear y0 y1 y2 y3 y4 y5 y6 y7 y8 y9 y10 y11 y12
   have y0 : W1.cell? ⟨w.heap.size, 0, none⟩ = some (.int .i64 a0_0) := by rw [World.cell?, HX1.out]; rfl
   have y1 : W1.cell? ⟨w.heap.size, 1, none⟩ = some (.int .i64 a0_1) := by rw [World.cell?, HX1.out]; rfl
   have y2 : W1.cell? ⟨w.heap.size, 2, none⟩ = some (.int .i64 a0_2) := by rw [World.cell?, HX1.out]; rfl
   have y3 : W1.cell? ⟨w.heap.size, 3, none⟩ = some (.int .i64 a0_3) := by rw [World.cell?, HX1.out]; rfl
   have y4 : W1.cell? ⟨w.heap.size, 4, none⟩ = some (.bool a0_4) := by rw [World.cell?, HX1.out]; rfl
   have y5 : W1.cell? ⟨w.heap.size, 5, none⟩ = some (.bool a0_5) := by rw [World.cell?, HX1.out]; rfl
   have y6 : W1.cell? ⟨w.heap.size, 6, none⟩ = some (.int .i64 a0_6) := by rw [World.cell?, HX1.out]; rfl
   have y7 : W1.cell? ⟨w.heap.size, 7, none⟩ = some (.int .i64 a0_7) := by rw [World.cell?, HX1.out]; rfl
   have y8 : W1.cell? ⟨w.heap.size, 8, none⟩ = some (.int .i64 a0_8) := by rw [World.cell?, HX1.out]; rfl
   have y9 : W1.cell? ⟨w.heap.size, 9, none⟩ = some (.int .i64 a0_9) := by rw [World.cell?, HX1.out]; rfl
   have y10 : W1.cell? ⟨w.heap.size, 10, none⟩ = some (.int .i64 a0_10) := by rw [World.cell?, HX1.out]; rfl
   have y11 : W1.cell? ⟨w.heap.size, 11, none⟩ = some (.int .i64 a0_11) := by rw [World.cell?, HX1.out]; rfl
   have y12 : W1.cell? ⟨w.heap.size, 12, none⟩ = some (.string a0_12) := by rw [World.cell?, HX1.out]; rfl
   go_wp2_with fail
   refine (check_c (w.heap.size + 1) (w.heap.size + 1) [] 0 none b 130 W1 HW1.out).mono ?_
   rintro en W2 ⟨rfl, h1, h3, h4⟩
   have HW2 := Lib.hid h1
   have HB2 := Lib.hid (HB1.out.trans (h3))
   have HL2 := Lib.hid (Nat.le_trans HL0.out HB2.out.size)
   have HX2 := Lib.hid ((HB2.out.block w.heap.size (by omega)).trans HX0.out)
   clear h1 h3 h4
   clear y0 y1 y2 y3 y4 y5 y6 y7 y8 y9 y10 y11 y12
   have y0 : W2.cell? ⟨w.heap.size, 0, none⟩ = some (.int .i64 a0_0) := by rw [World.cell?, HX2.out]; rfl
   have y1 : W2.cell? ⟨w.heap.size, 1, none⟩ = some (.int .i64 a0_1) := by rw [World.cell?, HX2.out]; rfl
   have y2 : W2.cell? ⟨w.heap.size, 2, none⟩ = some (.int .i64 a0_2) := by rw [World.cell?, HX2.out]; rfl
   have y3 : W2.cell? ⟨w.heap.size, 3, none⟩ = some (.int .i64 a0_3) := by rw [World.cell?, HX2.out]; rfl
   have y4 : W2.cell? ⟨w.heap.size, 4, none⟩ = some (.bool a0_4) := by rw [World.cell?, HX2.out]; rfl
   have y5 : W2.cell? ⟨w.heap.size, 5, none⟩ = some (.bool a0_5) := by rw [World.cell?, HX2.out]; rfl
   have y6 : W2.cell? ⟨w.heap.size, 6, none⟩ = some (.int .i64 a0_6) := by rw [World.cell?, HX2.out]; rfl
   have y7 : W2.cell? ⟨w.heap.size, 7, none⟩ = some (.int .i64 a0_7) := by rw [World.cell?, HX2.out]; rfl
   have y8 : W2.cell? ⟨w.heap.size, 8, none⟩ = some (.int .i64 a0_8) := by rw [World.cell?, HX2.out]; rfl
   have y9 : W2.cell? ⟨w.heap.size, 9, none⟩ = some (.int .i64 a0_9) := by rw [World.cell?, HX2.out]; rfl
   have y10 : W2.cell? ⟨w.heap.size, 10, none⟩ = some (.int .i64 a0_10) := by rw [World.cell?, HX2.out]; rfl
   have y11 : W2.cell? ⟨w.heap.size, 11, none⟩ = some (.int .i64 a0_11) := by rw [World.cell?, HX2.out]; rfl
   have y12 : W2.cell? ⟨w.heap.size, 12, none⟩ = some (.string a0_12) := by rw [World.cell?, HX2.out]; rfl
   go_wp2_with fail
   refine (check_c (w.heap.size + 1) (w.heap.size + 1) [] (errW1 b 130 0) none false 1 W2 HW2.out).mono ?_
   rintro en W3 ⟨rfl, h1, h3, h4⟩
   have HW3 := Lib.hid h1
   have HB3 := Lib.hid (HB2.out.trans (h3))
   have HL3 := Lib.hid (Nat.le_trans HL0.out HB3.out.size)
   have HX3 := Lib.hid ((HB3.out.block w.heap.size (by omega)).trans HX0.out)
   clear h1 h3 h4
   clear y0 y1 y2 y3 y4 y5 y6 y7 y8 y9 y10 y11 y12
   have y0 : W3.cell? ⟨w.heap.size, 0, none⟩ = some (.int .i64 a0_0) := by rw [World.cell?, HX3.out]; rfl
   have y1 : W3.cell? ⟨w.heap.size, 1, none⟩ = some (.int .i64 a0_1) := by rw [World.cell?, HX3.out]; rfl
   have y2 : W3.cell? ⟨w.heap.size, 2, none⟩ = some (.int .i64 a0_2) := by rw [World.cell?, HX3.out]; rfl
   have y3 : W3.cell? ⟨w.heap.size, 3, none⟩ = some (.int .i64 a0_3) := by rw [World.cell?, HX3.out]; rfl
   have y4 : W3.cell? ⟨w.heap.size, 4, none⟩ = some (.bool a0_4) := by rw [World.cell?, HX3.out]; rfl
   have y5 : W3.cell? ⟨w.heap.size, 5, none⟩ = some (.bool a0_5) := by rw [World.cell?, HX3.out]; rfl
   have y6 : W3.cell? ⟨w.heap.size, 6, none⟩ = some (.int .i64 a0_6) := by rw [World.cell?, HX3.out]; rfl
   have y7 : W3.cell? ⟨w.heap.size, 7, none⟩ = some (.int .i64 a0_7) := by rw [World.cell?, HX3.out]; rfl
   have y8 : W3.cell? ⟨w.heap.size, 8, none⟩ = some (.int .i64 a0_8) := by rw [World.cell?, HX3.out]; rfl
   have y9 : W3.cell? ⟨w.heap.size, 9, none⟩ = some (.int .i64 a0_9) := by rw [World.cell?, HX3.out]; rfl
   have y10 : W3.cell? ⟨w.heap.size, 10, none⟩ = some (.int .i64 a0_10) := by rw [World.cell?, HX3.out]; rfl
   have y11 : W3.cell? ⟨w.heap.size, 11, none⟩ = some (.int .i64 a0_11) := by rw [World.cell?, HX3.out]; rfl
   have y12 : W3.cell? ⟨w.heap.size, 12, none⟩ = some (.string a0_12) := by rw [World.cell?, HX3.out]; rfl
   go_wp2_with fail
   refine (ints_c (w.heap.size + 1) (w.heap.size + 1) [] (errW1 false 1 (errW1 b 130 0)) none 2 (some ⟨W3.heap.size, 0, none⟩) 2 [a0_0, a0_1] st _ (HW3.out.below (below_alloc (Below.refl _ _) _)) (by have := HL3.out; simp; omega) (by simp) (fresh_row [a0_0, a0_1] (by simp) HW3.out.lt (fun k hk => (HW3.out.row_ k hk).2) _ rfl) (by have := E1.out; rw [HD.out] at this; exact this)).mono ?_
   rintro en W4 ⟨rfl, row4, h1, h2, h3, h4⟩
   have HW4 := Lib.hid h1
   have HB4 := Lib.hid (HB3.out.trans ((below_alloc (Below.refl W3.heap.size W3) _).mono HL3.out |>.trans h3))
   have HL4 := Lib.hid (Nat.le_trans HL0.out HB4.out.size)
   have HX4 := Lib.hid ((HB4.out.block w.heap.size (by omega)).trans HX0.out)
   clear h1 h2 h3 h4
   clear y0 y1 y2 y3 y4 y5 y6 y7 y8 y9 y10 y11 y12
   have y0 : W4.cell? ⟨w.heap.size, 0, none⟩ = some (.int .i64 a0_0) := by rw [World.cell?, HX4.out]; rfl
   have y1 : W4.cell? ⟨w.heap.size, 1, none⟩ = some (.int .i64 a0_1) := by rw [World.cell?, HX4.out]; rfl
   have y2 : W4.cell? ⟨w.heap.size, 2, none⟩ = some (.int .i64 a0_2) := by rw [World.cell?, HX4.out]; rfl
   have y3 : W4.cell? ⟨w.heap.size, 3, none⟩ = some (.int .i64 a0_3) := by rw [World.cell?, HX4.out]; rfl
   have y4 : W4.cell? ⟨w.heap.size, 4, none⟩ = some (.bool a0_4) := by rw [World.cell?, HX4.out]; rfl
   have y5 : W4.cell? ⟨w.heap.size, 5, none⟩ = some (.bool a0_5) := by rw [World.cell?, HX4.out]; rfl
   have y6 : W4.cell? ⟨w.heap.size, 6, none⟩ = some (.int .i64 a0_6) := by rw [World.cell?, HX4.out]; rfl
   have y7 : W4.cell? ⟨w.heap.size, 7, none⟩ = some (.int .i64 a0_7) := by rw [World.cell?, HX4.out]; rfl
   have y8 : W4.cell? ⟨w.heap.size, 8, none⟩ = some (.int .i64 a0_8) := by rw [World.cell?, HX4.out]; rfl
   have y9 : W4.cell? ⟨w.heap.size, 9, none⟩ = some (.int .i64 a0_9) := by rw [World.cell?, HX4.out]; rfl
   have y10 : W4.cell? ⟨w.heap.size, 10, none⟩ = some (.int .i64 a0_10) := by rw [World.cell?, HX4.out]; rfl
   have y11 : W4.cell? ⟨w.heap.size, 11, none⟩ = some (.int .i64 a0_11) := by rw [World.cell?, HX4.out]; rfl
   have y12 : W4.cell? ⟨w.heap.size, 12, none⟩ = some (.string a0_12) := by rw [World.cell?, HX4.out]; rfl
   go_wp2_with fail
   refine (format_Bytes.calls a0_2 a0_3 a0_4 a0_5 a0_6 a0_7 a0_8 a0_9 a0_10 a0_11 s W4 E2.out).mono ?_
   rintro en W5 ⟨rfl, h3⟩
   have HW5 := Lib.hid (HW4.out.below h3)
   have HB5 := Lib.hid (HB4.out.trans (h3.mono HL4.out))
   have HL5 := Lib.hid (Nat.le_trans HL0.out HB5.out.size)
   have HX5 := Lib.hid ((HB5.out.block w.heap.size (by omega)).trans HX0.out)
   clear h3
   clear y0 y1 y2 y3 y4 y5 y6 y7 y8 y9 y10 y11 y12
   have y0 : W5.cell? ⟨w.heap.size, 0, none⟩ = some (.int .i64 a0_0) := by rw [World.cell?, HX5.out]; rfl
   have y1 : W5.cell? ⟨w.heap.size, 1, none⟩ = some (.int .i64 a0_1) := by rw [World.cell?, HX5.out]; rfl
   have y2 : W5.cell? ⟨w.heap.size, 2, none⟩ = some (.int .i64 a0_2) := by rw [World.cell?, HX5.out]; rfl
   have y3 : W5.cell? ⟨w.heap.size, 3, none⟩ = some (.int .i64 a0_3) := by rw [World.cell?, HX5.out]; rfl
   have y4 : W5.cell? ⟨w.heap.size, 4, none⟩ = some (.bool a0_4) := by rw [World.cell?, HX5.out]; rfl
   have y5 : W5.cell? ⟨w.heap.size, 5, none⟩ = some (.bool a0_5) := by rw [World.cell?, HX5.out]; rfl
   have y6 : W5.cell? ⟨w.heap.size, 6, none⟩ = some (.int .i64 a0_6) := by rw [World.cell?, HX5.out]; rfl
   have y7 : W5.cell? ⟨w.heap.size, 7, none⟩ = some (.int .i64 a0_7) := by rw [World.cell?, HX5.out]; rfl
   have y8 : W5.cell? ⟨w.heap.size, 8, none⟩ = some (.int .i64 a0_8) := by rw [World.cell?, HX5.out]; rfl
   have y9 : W5.cell? ⟨w.heap.size, 9, none⟩ = some (.int .i64 a0_9) := by rw [World.cell?, HX5.out]; rfl
   have y10 : W5.cell? ⟨w.heap.size, 10, none⟩ = some (.int .i64 a0_10) := by rw [World.cell?, HX5.out]; rfl
   have y11 : W5.cell? ⟨w.heap.size, 11, none⟩ = some (.int .i64 a0_11) := by rw [World.cell?, HX5.out]; rfl
   have y12 : W5.cell? ⟨w.heap.size, 12, none⟩ = some (.string a0_12) := by rw [World.cell?, HX5.out]; rfl
   go_wp2_with fail
   refine (write_c (w.heap.size + 1) (w.heap.size + 1) st.1 st.2 row4 s W5 HW5.out (by have := HSZ.out; omega) HL5.out).mono ?_
   rintro en W6 ⟨rfl, row6, h1, h2, h3, h4⟩
   have HW6 := Lib.hid h1
   have HB6 := Lib.hid (HB5.out.trans (h3))
   have HL6 := Lib.hid (Nat.le_trans HL0.out HB6.out.size)
   have HX6 := Lib.hid ((HB6.out.block w.heap.size (by omega)).trans HX0.out)
   clear h1 h2 h3 h4
   clear y0 y1 y2 y3 y4 y5 y6 y7 y8 y9 y10 y11 y12
   have y0 : W6.cell? ⟨w.heap.size, 0, none⟩ = some (.int .i64 a0_0) := by rw [World.cell?, HX6.out]; rfl
   have y1 : W6.cell? ⟨w.heap.size, 1, none⟩ = some (.int .i64 a0_1) := by rw [World.cell?, HX6.out]; rfl
   have y2 : W6.cell? ⟨w.heap.size, 2, none⟩ = some (.int .i64 a0_2) := by rw [World.cell?, HX6.out]; rfl
   have y3 : W6.cell? ⟨w.heap.size, 3, none⟩ = some (.int .i64 a0_3) := by rw [World.cell?, HX6.out]; rfl
   have y4 : W6.cell? ⟨w.heap.size, 4, none⟩ = some (.bool a0_4) := by rw [World.cell?, HX6.out]; rfl
   have y5 : W6.cell? ⟨w.heap.size, 5, none⟩ = some (.bool a0_5) := by rw [World.cell?, HX6.out]; rfl
   have y6 : W6.cell? ⟨w.heap.size, 6, none⟩ = some (.int .i64 a0_6) := by rw [World.cell?, HX6.out]; rfl
   have y7 : W6.cell? ⟨w.heap.size, 7, none⟩ = some (.int .i64 a0_7) := by rw [World.cell?, HX6.out]; rfl
   have y8 : W6.cell? ⟨w.heap.size, 8, none⟩ = some (.int .i64 a0_8) := by rw [World.cell?, HX6.out]; rfl
   have y9 : W6.cell? ⟨w.heap.size, 9, none⟩ = some (.int .i64 a0_9) := by rw [World.cell?, HX6.out]; rfl
   have y10 : W6.cell? ⟨w.heap.size, 10, none⟩ = some (.int .i64 a0_10) := by rw [World.cell?, HX6.out]; rfl
   have y11 : W6.cell? ⟨w.heap.size, 11, none⟩ = some (.int .i64 a0_11) := by rw [World.cell?, HX6.out]; rfl
   have y12 : W6.cell? ⟨w.heap.size, 12, none⟩ = some (.string a0_12) := by rw [World.cell?, HX6.out]; rfl
   go_wp2_with fail
   refine (text_c (w.heap.size + 1) (w.heap.size + 1) (st.1 ++ s.data.toList) st.2 row6 a0_12 st2 W6 HW6.out HL6.out HLEN.out E3.out).mono ?_
   rintro en W7 ⟨rfl, row7, h1, h2, h3, h4⟩
   have HW7 := Lib.hid h1
   have HB7 := Lib.hid (HB6.out.trans (h3))
   have HL7 := Lib.hid (Nat.le_trans HL0.out HB7.out.size)
   have HX7 := Lib.hid ((HB7.out.block w.heap.size (by omega)).trans HX0.out)
   clear h1 h2 h3 h4
   clear y0 y1 y2 y3 y4 y5 y6 y7 y8 y9 y10 y11 y12
   have y0 : W7.cell? ⟨w.heap.size, 0, none⟩ = some (.int .i64 a0_0) := by rw [World.cell?, HX7.out]; rfl
   have y1 : W7.cell? ⟨w.heap.size, 1, none⟩ = some (.int .i64 a0_1) := by rw [World.cell?, HX7.out]; rfl
   have y2 : W7.cell? ⟨w.heap.size, 2, none⟩ = some (.int .i64 a0_2) := by rw [World.cell?, HX7.out]; rfl
   have y3 : W7.cell? ⟨w.heap.size, 3, none⟩ = some (.int .i64 a0_3) := by rw [World.cell?, HX7.out]; rfl
   have y4 : W7.cell? ⟨w.heap.size, 4, none⟩ = some (.bool a0_4) := by rw [World.cell?, HX7.out]; rfl
   have y5 : W7.cell? ⟨w.heap.size, 5, none⟩ = some (.bool a0_5) := by rw [World.cell?, HX7.out]; rfl
   have y6 : W7.cell? ⟨w.heap.size, 6, none⟩ = some (.int .i64 a0_6) := by rw [World.cell?, HX7.out]; rfl
   have y7 : W7.cell? ⟨w.heap.size, 7, none⟩ = some (.int .i64 a0_7) := by rw [World.cell?, HX7.out]; rfl
   have y8 : W7.cell? ⟨w.heap.size, 8, none⟩ = some (.int .i64 a0_8) := by rw [World.cell?, HX7.out]; rfl
   have y9 : W7.cell? ⟨w.heap.size, 9, none⟩ = some (.int .i64 a0_9) := by rw [World.cell?, HX7.out]; rfl
   have y10 : W7.cell? ⟨w.heap.size, 10, none⟩ = some (.int .i64 a0_10) := by rw [World.cell?, HX7.out]; rfl
   have y11 : W7.cell? ⟨w.heap.size, 11, none⟩ = some (.int .i64 a0_11) := by rw [World.cell?, HX7.out]; rfl
   have y12 : W7.cell? ⟨w.heap.size, 12, none⟩ = some (.string a0_12) := by rw [World.cell?, HX7.out]; rfl
   go_wp2_with fail
   refine (done_c (w.heap.size + 1) (w.heap.size + 1) (st2.1, st2.2) row7 W7 HW7.out HL7.out).mono ?_
   rintro en Wz ⟨rfl, h3⟩
   have HBz := Lib.hid (HBW.out.trans (servermsg_Bytes_low (HB7.out.trans h3) (Nat.le_succ _)))
   clear h3
   go_wp2_with fail
   go_ret2
   exact ⟨rfl, HBz.out⟩
  ·have HD := Lib.hid (show decide (a0_0 ≠ 0 ∧ a0_1 ≠ 0) = true from decide_eq_true ⟨ha, hb⟩)
   have hb1 : (a0_1 != 0) = true := by simpa using hb
   clear ha hb
   go_enter Try.func11, Try.ntmps11
   go_wp2_with fail
   try rw [hW0]
   clear hW0
   refine (format_Valid.calls a0_2 a0_3 a0_4 a0_5 a0_6 a0_7 a0_8 a0_9 a0_10 a0_11 b W0 E0.out).mono ?_
   rintro en W1 ⟨rfl, h3⟩
   have HW1 := Lib.hid (HW0.out.below h3)
   have HB1 := Lib.hid (HB0.out.trans (h3.mono HL0.out))
   have HL1 := Lib.hid (Nat.le_trans HL0.out HB1.out.size)
   have HX1 := Lib.hid ((HB1.out.block w.heap.size (by omega)).trans HX0.out)
   clear h3
   clear y0 y1 y2 y3 y4 y5 y6 y7 y8 y9 y10 y11 y12
   have y0 : W1.cell? ⟨w.heap.size, 0, none⟩ = some (.int .i64 a0_0) := by rw [World.cell?, HX1.out]; rfl
   have y1 : W1.cell? ⟨w.heap.size, 1, none⟩ = some (.int .i64 a0_1) := by rw [World.cell?, HX1.out]; rfl
   have y2 : W1.cell? ⟨w.heap.size, 2, none⟩ = some (.int .i64 a0_2) := by rw [World.cell?, HX1.out]; rfl
   have y3 : W1.cell? ⟨w.heap.size, 3, none⟩ = some (.int .i64 a0_3) := by rw [World.cell?, HX1.out]; rfl
   have y4 : W1.cell? ⟨w.heap.size, 4, none⟩ = some (.bool a0_4) := by rw [World.cell?, HX1.out]; rfl
   have y5 : W1.cell? ⟨w.heap.size, 5, none⟩ = some (.bool a0_5) := by rw [World.cell?, HX1.out]; rfl
   have y6 : W1.cell? ⟨w.heap.size, 6, none⟩ = some (.int .i64 a0_6) := by rw [World.cell?, HX1.out]; rfl
   have y7 : W1.cell? ⟨w.heap.size, 7, none⟩ = some (.int .i64 a0_7) := by rw [World.cell?, HX1.out]; rfl
   have y8 : W1.cell? ⟨w.heap.size, 8, none⟩ = some (.int .i64 a0_8) := by rw [World.cell?, HX1.out]; rfl
   have y9 : W1.cell? ⟨w.heap.size, 9, none⟩ = some (.int .i64 a0_9) := by rw [World.cell?, HX1.out]; rfl
   have y10 : W1.cell? ⟨w.heap.size, 10, none⟩ = some (.int .i64 a0_10) := by rw [World.cell?, HX1.out]; rfl
   have y11 : W1.cell? ⟨w.heap.size, 11, none⟩ = some (.int .i64 a0_11) := by rw [World.cell?, HX1.out]; rfl
   have y12 : W1.cell? ⟨w.heap.size, 12, none⟩ = some (.string a0_12) := by rw [World.cell?, HX1.out]; rfl
   go_wp2_with fail
   refine (check_c (w.heap.size + 1) (w.heap.size + 1) [] 0 none b 130 W1 HW1.out).mono ?_
   rintro en W2 ⟨rfl, h1, h3, h4⟩
   have HW2 := Lib.hid h1
   have HB2 := Lib.hid (HB1.out.trans (h3))
   have HL2 := Lib.hid (Nat.le_trans HL0.out HB2.out.size)
   have HX2 := Lib.hid ((HB2.out.block w.heap.size (by omega)).trans HX0.out)
   clear h1 h3 h4
   clear y0 y1 y2 y3 y4 y5 y6 y7 y8 y9 y10 y11 y12
   have y0 : W2.cell? ⟨w.heap.size, 0, none⟩ = some (.int .i64 a0_0) := by rw [World.cell?, HX2.out]; rfl
   have y1 : W2.cell? ⟨w.heap.size, 1, none⟩ = some (.int .i64 a0_1) := by rw [World.cell?, HX2.out]; rfl
   have y2 : W2.cell? ⟨w.heap.size, 2, none⟩ = some (.int .i64 a0_2) := by rw [World.cell?, HX2.out]; rfl
   have y3 : W2.cell? ⟨w.heap.size, 3, none⟩ = some (.int .i64 a0_3) := by rw [World.cell?, HX2.out]; rfl
   have y4 : W2.cell? ⟨w.heap.size, 4, none⟩ = some (.bool a0_4) := by rw [World.cell?, HX2.out]; rfl
   have y5 : W2.cell? ⟨w.heap.size, 5, none⟩ = some (.bool a0_5) := by rw [World.cell?, HX2.out]; rfl
   have y6 : W2.cell? ⟨w.heap.size, 6, none⟩ = some (.int .i64 a0_6) := by rw [World.cell?, HX2.out]; rfl
   have y7 : W2.cell? ⟨w.heap.size, 7, none⟩ = some (.int .i64 a0_7) := by rw [World.cell?, HX2.out]; rfl
   have y8 : W2.cell? ⟨w.heap.size, 8, none⟩ = some (.int .i64 a0_8) := by rw [World.cell?, HX2.out]; rfl
   have y9 : W2.cell? ⟨w.heap.size, 9, none⟩ = some (.int .i64 a0_9) := by rw [World.cell?, HX2.out]; rfl
   have y10 : W2.cell? ⟨w.heap.size, 10, none⟩ = some (.int .i64 a0_10) := by rw [World.cell?, HX2.out]; rfl
   have y11 : W2.cell? ⟨w.heap.size, 11, none⟩ = some (.int .i64 a0_11) := by rw [World.cell?, HX2.out]; rfl
   have y12 : W2.cell? ⟨w.heap.size, 12, none⟩ = some (.string a0_12) := by rw [World.cell?, HX2.out]; rfl
   go_wp2_with fail
   refine (check_c (w.heap.size + 1) (w.heap.size + 1) [] (errW1 b 130 0) none true 1 W2 HW2.out).mono ?_
   rintro en W3 ⟨rfl, h1, h3, h4⟩
   have HW3 := Lib.hid h1
   have HB3 := Lib.hid (HB2.out.trans (h3))
   have HL3 := Lib.hid (Nat.le_trans HL0.out HB3.out.size)
   have HX3 := Lib.hid ((HB3.out.block w.heap.size (by omega)).trans HX0.out)
   clear h1 h3 h4
   clear y0 y1 y2 y3 y4 y5 y6 y7 y8 y9 y10 y11 y12
   have y0 : W3.cell? ⟨w.heap.size, 0, none⟩ = some (.int .i64 a0_0) := by rw [World.cell?, HX3.out]; rfl
   have y1 : W3.cell? ⟨w.heap.size, 1, none⟩ = some (.int .i64 a0_1) := by rw [World.cell?, HX3.out]; rfl
   have y2 : W3.cell? ⟨w.heap.size, 2, none⟩ = some (.int .i64 a0_2) := by rw [World.cell?, HX3.out]; rfl
   have y3 : W3.cell? ⟨w.heap.size, 3, none⟩ = some (.int .i64 a0_3) := by rw [World.cell?, HX3.out]; rfl
   have y4 : W3.cell? ⟨w.heap.size, 4, none⟩ = some (.bool a0_4) := by rw [World.cell?, HX3.out]; rfl
   have y5 : W3.cell? ⟨w.heap.size, 5, none⟩ = some (.bool a0_5) := by rw [World.cell?, HX3.out]; rfl
   have y6 : W3.cell? ⟨w.heap.size, 6, none⟩ = some (.int .i64 a0_6) := by rw [World.cell?, HX3.out]; rfl
   have y7 : W3.cell? ⟨w.heap.size, 7, none⟩ = some (.int .i64 a0_7) := by rw [World.cell?, HX3.out]; rfl
   have y8 : W3.cell? ⟨w.heap.size, 8, none⟩ = some (.int .i64 a0_8) := by rw [World.cell?, HX3.out]; rfl
   have y9 : W3.cell? ⟨w.heap.size, 9, none⟩ = some (.int .i64 a0_9) := by rw [World.cell?, HX3.out]; rfl
   have y10 : W3.cell? ⟨w.heap.size, 10, none⟩ = some (.int .i64 a0_10) := by rw [World.cell?, HX3.out]; rfl
   have y11 : W3.cell? ⟨w.heap.size, 11, none⟩ = some (.int .i64 a0_11) := by rw [World.cell?, HX3.out]; rfl
   have y12 : W3.cell? ⟨w.heap.size, 12, none⟩ = some (.string a0_12) := by rw [World.cell?, HX3.out]; rfl
   go_wp2_with fail
   refine (ints_c (w.heap.size + 1) (w.heap.size + 1) [] (errW1 true 1 (errW1 b 130 0)) none 2 (some ⟨W3.heap.size, 0, none⟩) 2 [a0_0, a0_1] st _ (HW3.out.below (below_alloc (Below.refl _ _) _)) (by have := HL3.out; simp; omega) (by simp) (fresh_row [a0_0, a0_1] (by simp) HW3.out.lt (fun k hk => (HW3.out.row_ k hk).2) _ rfl) (by have := E1.out; rw [HD.out] at this; exact this)).mono ?_
   rintro en W4 ⟨rfl, row4, h1, h2, h3, h4⟩
   have HW4 := Lib.hid h1
   have HB4 := Lib.hid (HB3.out.trans ((below_alloc (Below.refl W3.heap.size W3) _).mono HL3.out |>.trans h3))
   have HL4 := Lib.hid (Nat.le_trans HL0.out HB4.out.size)
   have HX4 := Lib.hid ((HB4.out.block w.heap.size (by omega)).trans HX0.out)
   clear h1 h2 h3 h4
   clear y0 y1 y2 y3 y4 y5 y6 y7 y8 y9 y10 y11 y12
   have y0 : W4.cell? ⟨w.heap.size, 0, none⟩ = some (.int .i64 a0_0) := by rw [World.cell?, HX4.out]; rfl
   have y1 : W4.cell? ⟨w.heap.size, 1, none⟩ = some (.int .i64 a0_1) := by rw [World.cell?, HX4.out]; rfl
   have y2 : W4.cell? ⟨w.heap.size, 2, none⟩ = some (.int .i64 a0_2) := by rw [World.cell?, HX4.out]; rfl
   have y3 : W4.cell? ⟨w.heap.size, 3, none⟩ = some (.int .i64 a0_3) := by rw [World.cell?, HX4.out]; rfl
   have y4 : W4.cell? ⟨w.heap.size, 4, none⟩ = some (.bool a0_4) := by rw [World.cell?, HX4.out]; rfl
   have y5 : W4.cell? ⟨w.heap.size, 5, none⟩ = some (.bool a0_5) := by rw [World.cell?, HX4.out]; rfl
   have y6 : W4.cell? ⟨w.heap.size, 6, none⟩ = some (.int .i64 a0_6) := by rw [World.cell?, HX4.out]; rfl
   have y7 : W4.cell? ⟨w.heap.size, 7, none⟩ = some (.int .i64 a0_7) := by rw [World.cell?, HX4.out]; rfl
   have y8 : W4.cell? ⟨w.heap.size, 8, none⟩ = some (.int .i64 a0_8) := by rw [World.cell?, HX4.out]; rfl
   have y9 : W4.cell? ⟨w.heap.size, 9, none⟩ = some (.int .i64 a0_9) := by rw [World.cell?, HX4.out]; rfl
   have y10 : W4.cell? ⟨w.heap.size, 10, none⟩ = some (.int .i64 a0_10) := by rw [World.cell?, HX4.out]; rfl
   have y11 : W4.cell? ⟨w.heap.size, 11, none⟩ = some (.int .i64 a0_11) := by rw [World.cell?, HX4.out]; rfl
   have y12 : W4.cell? ⟨w.heap.size, 12, none⟩ = some (.string a0_12) := by rw [World.cell?, HX4.out]; rfl
   go_wp2_with fail
   refine (format_Bytes.calls a0_2 a0_3 a0_4 a0_5 a0_6 a0_7 a0_8 a0_9 a0_10 a0_11 s W4 E2.out).mono ?_
   rintro en W5 ⟨rfl, h3⟩
   have HW5 := Lib.hid (HW4.out.below h3)
   have HB5 := Lib.hid (HB4.out.trans (h3.mono HL4.out))
   have HL5 := Lib.hid (Nat.le_trans HL0.out HB5.out.size)
   have HX5 := Lib.hid ((HB5.out.block w.heap.size (by omega)).trans HX0.out)
   clear h3
   clear y0 y1 y2 y3 y4 y5 y6 y7 y8 y9 y10 y11 y12
   have y0 : W5.cell? ⟨w.heap.size, 0, none⟩ = some (.int .i64 a0_0) := by rw [World.cell?, HX5.out]; rfl
   have y1 : W5.cell? ⟨w.heap.size, 1, none⟩ = some (.int .i64 a0_1) := by rw [World.cell?, HX5.out]; rfl
   have y2 : W5.cell? ⟨w.heap.size, 2, none⟩ = some (.int .i64 a0_2) := by rw [World.cell?, HX5.out]; rfl
   have y3 : W5.cell? ⟨w.heap.size, 3, none⟩ = some (.int .i64 a0_3) := by rw [World.cell?, HX5.out]; rfl
   have y4 : W5.cell? ⟨w.heap.size, 4, none⟩ = some (.bool a0_4) := by rw [World.cell?, HX5.out]; rfl
   have y5 : W5.cell? ⟨w.heap.size, 5, none⟩ = some (.bool a0_5) := by rw [World.cell?, HX5.out]; rfl
   have y6 : W5.cell? ⟨w.heap.size, 6, none⟩ = some (.int .i64 a0_6) := by rw [World.cell?, HX5.out]; rfl
   have y7 : W5.cell? ⟨w.heap.size, 7, none⟩ = some (.int .i64 a0_7) := by rw [World.cell?, HX5.out]; rfl
   have y8 : W5.cell? ⟨w.heap.size, 8, none⟩ = some (.int .i64 a0_8) := by rw [World.cell?, HX5.out]; rfl
   have y9 : W5.cell? ⟨w.heap.size, 9, none⟩ = some (.int .i64 a0_9) := by rw [World.cell?, HX5.out]; rfl
   have y10 : W5.cell? ⟨w.heap.size, 10, none⟩ = some (.int .i64 a0_10) := by rw [World.cell?, HX5.out]; rfl
   have y11 : W5.cell? ⟨w.heap.size, 11, none⟩ = some (.int .i64 a0_11) := by rw [World.cell?, HX5.out]; rfl
   have y12 : W5.cell? ⟨w.heap.size, 12, none⟩ = some (.string a0_12) := by rw [World.cell?, HX5.out]; rfl
   go_wp2_with fail
   refine (write_c (w.heap.size + 1) (w.heap.size + 1) st.1 st.2 row4 s W5 HW5.out (by have := HSZ.out; omega) HL5.out).mono ?_
   rintro en W6 ⟨rfl, row6, h1, h2, h3, h4⟩
   have HW6 := Lib.hid h1
   have HB6 := Lib.hid (HB5.out.trans (h3))
   have HL6 := Lib.hid (Nat.le_trans HL0.out HB6.out.size)
   have HX6 := Lib.hid ((HB6.out.block w.heap.size (by omega)).trans HX0.out)
   clear h1 h2 h3 h4
   clear y0 y1 y2 y3 y4 y5 y6 y7 y8 y9 y10 y11 y12
   have y0 : W6.cell? ⟨w.heap.size, 0, none⟩ = some (.int .i64 a0_0) := by rw [World.cell?, HX6.out]; rfl
   have y1 : W6.cell? ⟨w.heap.size, 1, none⟩ = some (.int .i64 a0_1) := by rw [World.cell?, HX6.out]; rfl
   have y2 : W6.cell? ⟨w.heap.size, 2, none⟩ = some (.int .i64 a0_2) := by rw [World.cell?, HX6.out]; rfl
   have y3 : W6.cell? ⟨w.heap.size, 3, none⟩ = some (.int .i64 a0_3) := by rw [World.cell?, HX6.out]; rfl
   have y4 : W6.cell? ⟨w.heap.size, 4, none⟩ = some (.bool a0_4) := by rw [World.cell?, HX6.out]; rfl
   have y5 : W6.cell? ⟨w.heap.size, 5, none⟩ = some (.bool a0_5) := by rw [World.cell?, HX6.out]; rfl
   have y6 : W6.cell? ⟨w.heap.size, 6, none⟩ = some (.int .i64 a0_6) := by rw [World.cell?, HX6.out]; rfl
   have y7 : W6.cell? ⟨w.heap.size, 7, none⟩ = some (.int .i64 a0_7) := by rw [World.cell?, HX6.out]; rfl
   have y8 : W6.cell? ⟨w.heap.size, 8, none⟩ = some (.int .i64 a0_8) := by rw [World.cell?, HX6.out]; rfl
   have y9 : W6.cell? ⟨w.heap.size, 9, none⟩ = some (.int .i64 a0_9) := by rw [World.cell?, HX6.out]; rfl
   have y10 : W6.cell? ⟨w.heap.size, 10, none⟩ = some (.int .i64 a0_10) := by rw [World.cell?, HX6.out]; rfl
   have y11 : W6.cell? ⟨w.heap.size, 11, none⟩ = some (.int .i64 a0_11) := by rw [World.cell?, HX6.out]; rfl
   have y12 : W6.cell? ⟨w.heap.size, 12, none⟩ = some (.string a0_12) := by rw [World.cell?, HX6.out]; rfl
   go_wp2_with fail
   refine (text_c (w.heap.size + 1) (w.heap.size + 1) (st.1 ++ s.data.toList) st.2 row6 a0_12 st2 W6 HW6.out HL6.out HLEN.out E3.out).mono ?_
   rintro en W7 ⟨rfl, row7, h1, h2, h3, h4⟩
   have HW7 := Lib.hid h1
   have HB7 := Lib.hid (HB6.out.trans (h3))
   have HL7 := Lib.hid (Nat.le_trans HL0.out HB7.out.size)
   have HX7 := Lib.hid ((HB7.out.block w.heap.size (by omega)).trans HX0.out)
   clear h1 h2 h3 h4
   clear y0 y1 y2 y3 y4 y5 y6 y7 y8 y9 y10 y11 y12
   have y0 : W7.cell? ⟨w.heap.size, 0, none⟩ = some (.int .i64 a0_0) := by rw [World.cell?, HX7.out]; rfl
   have y1 : W7.cell? ⟨w.heap.size, 1, none⟩ = some (.int .i64 a0_1) := by rw [World.cell?, HX7.out]; rfl
   have y2 : W7.cell? ⟨w.heap.size, 2, none⟩ = some (.int .i64 a0_2) := by rw [World.cell?, HX7.out]; rfl
   have y3 : W7.cell? ⟨w.heap.size, 3, none⟩ = some (.int .i64 a0_3) := by rw [World.cell?, HX7.out]; rfl
   have y4 : W7.cell? ⟨w.heap.size, 4, none⟩ = some (.bool a0_4) := by rw [World.cell?, HX7.out]; rfl
   have y5 : W7.cell? ⟨w.heap.size, 5, none⟩ = some (.bool a0_5) := by rw [World.cell?, HX7.out]; rfl
   have y6 : W7.cell? ⟨w.heap.size, 6, none⟩ = some (.int .i64 a0_6) := by rw [World.cell?, HX7.out]; rfl
   have y7 : W7.cell? ⟨w.heap.size, 7, none⟩ = some (.int .i64 a0_7) := by rw [World.cell?, HX7.out]; rfl
   have y8 : W7.cell? ⟨w.heap.size, 8, none⟩ = some (.int .i64 a0_8) := by rw [World.cell?, HX7.out]; rfl
   have y9 : W7.cell? ⟨w.heap.size, 9, none⟩ = some (.int .i64 a0_9) := by rw [World.cell?, HX7.out]; rfl
   have y10 : W7.cell? ⟨w.heap.size, 10, none⟩ = some (.int .i64 a0_10) := by rw [World.cell?, HX7.out]; rfl
   have y11 : W7.cell? ⟨w.heap.size, 11, none⟩ = some (.int .i64 a0_11) := by rw [World.cell?, HX7.out]; rfl
   have y12 : W7.cell? ⟨w.heap.size, 12, none⟩ = some (.string a0_12) := by rw [World.cell?, HX7.out]; rfl
   go_wp2_with fail
   refine (done_c (w.heap.size + 1) (w.heap.size + 1) (st2.1, st2.2) row7 W7 HW7.out HL7.out).mono ?_
   rintro en Wz ⟨rfl, h3⟩
   have HBz := Lib.hid (HBW.out.trans (servermsg_Bytes_low (HB7.out.trans h3) (Nat.le_succ _)))
   clear h3
   go_wp2_with fail
   go_ret2
   exact ⟨rfl, HBz.out⟩

end Go.Proofs.Ytpackckoblpbfaa.X
