/- What each Go function that these laws use answers: as a Lean function, with the proof that the machine's call comes to it. Written by a program of this session (xprint.py). -/
import Derived.Test.YtpackckoblpbfaaXx0
import Derived.Test.YtpackckoblpbfaaXx3
import Derived.Test.YtpackckoblpbfaaXx7
namespace Go.Proofs.Ytpackckoblpbfaa.X
open Go.RowKit Go.Proofs.YtpackckoblpbfaaW.PrintWords Go.Proofs.YtpackckoblpbfaaW.PrintLast Go.Proofs.YtpackckoblpbfaaW.PrintMore
attribute [local go_sem] max2_int min2_int max_two min_two max_three min_three max_four min_four   -- for this text's walks alone
set_option linter.unusedVariables false
set_option linter.unusedSimpArgs false

/-! ### servermsg_Say: function 15 -/
theorem servermsg_Say_low {B B' : Nat} {W W' : World} (h : Below B W W') (hl : B' ≤ B) : Below B' W W' := ⟨h.os, h.tape, h.output, h.size, fun k hk => h.block k (by omega)⟩
def servermsg_Say.f (a0_0 : Int) (a0_1 : Bool) (a0_2 : Int) (a0_3 : Int) (a0_4 : Int) (a0_5 : Int) (a0_6 : Int) (a0_7 : Int) (a0_8 : Int) (a0_9 : Bool) (a0_10 : Bool) (a0_11 : Int) (a0_12 : Int) (a0_13 : Int) (a0_14 : Int) (a0_15 : Int) (a0_16 : Int) (l0_17 : List Int) (a0_18 : ByteArray) : Option (ByteArray × Int) := if a0_0 = 6 then (wInts 1 [0, 0] ([], 0)).bind fun st => (wInts 2 [a0_2] st).bind fun st2 => some (doneS st2) else if a0_0 = 7 then (wInts 1 [2] ([], 0)).bind fun st => some (doneS st) else if a0_0 = 5 then if a0_18.size ≤ 140737488351232 then (wInts 1 [3, 0, 0, 0] ([], 0)).bind fun st => (wText st a0_18).bind fun st2 => some (doneS st2) else none else some (doneS ([], 1))
set_option maxHeartbeats 4000000 in
set_option maxRecDepth 100000 in
theorem servermsg_Say.calls (a0_0 : Int) (a0_1 : Bool) (a0_2 : Int) (a0_3 : Int) (a0_4 : Int) (a0_5 : Int) (a0_6 : Int) (a0_7 : Int) (a0_8 : Int) (a0_9 : Bool) (a0_10 : Bool) (a0_11 : Int) (a0_12 : Int) (a0_13 : Int) (a0_14 : Int) (a0_15 : Int) (a0_16 : Int) (A0_17 : Option Addr) (c0_17 : Nat) (l0_17 : List Int) (a0_18 : ByteArray) (r1 : ByteArray) (r2 : Int) (w : World) (hr0_17 : Kd.C (Kd.int .i64) w A0_17 l0_17.length l0_17) (hc0_17 : l0_17.length ≤ c0_17) (h : servermsg_Say.f a0_0 a0_1 a0_2 a0_3 a0_4 a0_5 a0_6 a0_7 a0_8 a0_9 a0_10 a0_11 a0_12 a0_13 a0_14 a0_15 a0_16 l0_17 a0_18 = some (r1, r2)) :
  Calls Try.prog 15 #[.agg #[.int .i64 a0_0, .bool a0_1, .int .i64 a0_2, .int .i64 a0_3, .int .i64 a0_4, .int .i64 a0_5, .int .i64 a0_6, .int .i64 a0_7, .int .i64 a0_8, .bool a0_9, .bool a0_10, .int .i64 a0_11, .int .i64 a0_12, .int .i64 a0_13, .int .i64 a0_14, .int .i64 a0_15, .int .i64 a0_16, .slice A0_17 l0_17.length c0_17, .string a0_18]] w fun e w' => e = .returned (.tuple #[.string r1, .int .i64 r2]) ∧ Below w.heap.size w w' := by
 unfold servermsg_Say.f at h
 clear hr0_17 hc0_17
 obtain ⟨W0, hW0⟩ : ∃ W0, (w.alloc (.cells #[.int .i64 a0_0, .bool a0_1, .int .i64 a0_2, .int .i64 a0_3, .int .i64 a0_4, .int .i64 a0_5, .int .i64 a0_6, .int .i64 a0_7, .int .i64 a0_8, .bool a0_9, .bool a0_10, .int .i64 a0_11, .int .i64 a0_12, .int .i64 a0_13, .int .i64 a0_14, .int .i64 a0_15, .int .i64 a0_16, .slice A0_17 l0_17.length c0_17, .string a0_18] 33)).alloc (.cells #[.pointer none, .slice none 0 0, .int .i64 0] 76) = W0 := ⟨_, rfl⟩
 have HX0 := Lib.hid (show W0.heap[w.heap.size]? = some (.cells #[.int .i64 a0_0, .bool a0_1, .int .i64 a0_2, .int .i64 a0_3, .int .i64 a0_4, .int .i64 a0_5, .int .i64 a0_6, .int .i64 a0_7, .int .i64 a0_8, .bool a0_9, .bool a0_10, .int .i64 a0_11, .int .i64 a0_12, .int .i64 a0_13, .int .i64 a0_14, .int .i64 a0_15, .int .i64 a0_16, .slice A0_17 l0_17.length c0_17, .string a0_18] 33 (0, 0)) from by rw [← hW0]; exact (Below.heap_alloc _ _ _ (by simp)).trans (heap_alloc_new w _))
 have HB0 := Lib.hid (show Below (w.heap.size + 1) W0 W0 from Below.refl _ _)
 have HBW := Lib.hid (show Below w.heap.size w W0 from by rw [← hW0]; exact below_alloc (below_alloc (Below.refl _ _) _) _)
 have HL0 := Lib.hid (show (w.heap.size + 1) ≤ W0.heap.size from by rw [← hW0]; simp)
 have HW0 := Lib.hid (show Wr (w.heap.size + 1) (w.heap.size + 1) [] 0 none W0 from Wr.new (by rw [← hW0]; have h0 := heap_alloc_new (w.alloc (.cells #[.int .i64 a0_0, .bool a0_1, .int .i64 a0_2, .int .i64 a0_3, .int .i64 a0_4, .int .i64 a0_5, .int .i64 a0_6, .int .i64 a0_7, .int .i64 a0_8, .bool a0_9, .bool a0_10, .int .i64 a0_11, .int .i64 a0_12, .int .i64 a0_13, .int .i64 a0_14, .int .i64 a0_15, .int .i64 a0_16, .slice A0_17 l0_17.length c0_17, .string a0_18] 33)) (.cells #[.pointer none, .slice none 0 0, .int .i64 0] 76); rw [World.size_alloc] at h0; exact h0) (Nat.le_refl _))
 have y0 : W0.cell? ⟨w.heap.size, 0, none⟩ = some (.int .i64 a0_0) := by rw [World.cell?, HX0.out]; rfl
 have y1 : W0.cell? ⟨w.heap.size, 1, none⟩ = some (.bool a0_1) := by rw [World.cell?, HX0.out]; rfl
 have y2 : W0.cell? ⟨w.heap.size, 2, none⟩ = some (.int .i64 a0_2) := by rw [World.cell?, HX0.out]; rfl
 have y3 : W0.cell? ⟨w.heap.size, 3, none⟩ = some (.int .i64 a0_3) := by rw [World.cell?, HX0.out]; rfl
 have y4 : W0.cell? ⟨w.heap.size, 4, none⟩ = some (.int .i64 a0_4) := by rw [World.cell?, HX0.out]; rfl
 have y5 : W0.cell? ⟨w.heap.size, 5, none⟩ = some (.int .i64 a0_5) := by rw [World.cell?, HX0.out]; rfl
 have y6 : W0.cell? ⟨w.heap.size, 6, none⟩ = some (.int .i64 a0_6) := by rw [World.cell?, HX0.out]; rfl
 have y7 : W0.cell? ⟨w.heap.size, 7, none⟩ = some (.int .i64 a0_7) := by rw [World.cell?, HX0.out]; rfl
 have y8 : W0.cell? ⟨w.heap.size, 8, none⟩ = some (.int .i64 a0_8) := by rw [World.cell?, HX0.out]; rfl
 have y9 : W0.cell? ⟨w.heap.size, 9, none⟩ = some (.bool a0_9) := by rw [World.cell?, HX0.out]; rfl
 have y10 : W0.cell? ⟨w.heap.size, 10, none⟩ = some (.bool a0_10) := by rw [World.cell?, HX0.out]; rfl
 have y11 : W0.cell? ⟨w.heap.size, 11, none⟩ = some (.int .i64 a0_11) := by rw [World.cell?, HX0.out]; rfl
 have y12 : W0.cell? ⟨w.heap.size, 12, none⟩ = some (.int .i64 a0_12) := by rw [World.cell?, HX0.out]; rfl
 have y13 : W0.cell? ⟨w.heap.size, 13, none⟩ = some (.int .i64 a0_13) := by rw [World.cell?, HX0.out]; rfl
 have y14 : W0.cell? ⟨w.heap.size, 14, none⟩ = some (.int .i64 a0_14) := by rw [World.cell?, HX0.out]; rfl
 have y15 : W0.cell? ⟨w.heap.size, 15, none⟩ = some (.int .i64 a0_15) := by rw [World.cell?, HX0.out]; rfl
 have y16 : W0.cell? ⟨w.heap.size, 16, none⟩ = some (.int .i64 a0_16) := by rw [World.cell?, HX0.out]; rfl
 have y17 : W0.cell? ⟨w.heap.size, 17, none⟩ = some (.slice A0_17 l0_17.length c0_17) := by rw [World.cell?, HX0.out]; rfl
 have y18 : W0.cell? ⟨w.heap.size, 18, none⟩ = some (.string a0_18) := by rw [World.cell?, HX0.out]; rfl
 by_cases h6 : a0_0 = 6
 ·subst h6
  rw [if_pos rfl] at h
  obtain ⟨st, e1, h⟩ := Option.bind_eq_some_iff.1 h
  obtain ⟨st2, e2, h⟩ := Option.bind_eq_some_iff.1 h
  have h := Option.some.inj h
  obtain ⟨rfl, rfl⟩ : (doneS st2).1 = r1 ∧ (doneS st2).2 = r2 := by rw [h]; exact ⟨rfl, rfl⟩
  have E1 := Lib.hid e1
  have E2 := Lib.hid e2
  clear h e1 e2
  go_enter Try.func15, Try.ntmps15
  go_wp2_with fail
  try rw [hW0]
  clear hW0
  refine (ints_c (w.heap.size + 1) (w.heap.size + 1) [] 0 none 1 (some ⟨W0.heap.size, 0, none⟩) 2 [0, 0] st _ (HW0.out.below (below_alloc (Below.refl _ _) _)) (by have := HL0.out; simp; omega) (by simp) (fresh_row [0, 0] (by simp) HW0.out.lt (fun k hk => (HW0.out.row_ k hk).2) _ rfl) E1.out).mono ?_
  rintro en W1 ⟨rfl, row1, h1, h2, h3, h4⟩
  have HW1 := Lib.hid h1
  have HB1 := Lib.hid (HB0.out.trans ((below_alloc (Below.refl W0.heap.size W0) _).mono HL0.out |>.trans h3))
  have HL1 := Lib.hid (Nat.le_trans HL0.out HB1.out.size)
  have HX1 := Lib.hid ((HB1.out.block w.heap.size (by omega)).trans HX0.out)
  clear h1 h2 h3 h4
  clear y0 y1 y2 y3 y4 y5 y6 y7 y8 y9 y10 y11 y12 y13 y14 y15 y16 y17 y18
  have y0 : W1.cell? ⟨w.heap.size, 0, none⟩ = some (.int .i64 6) := by rw [World.cell?, HX1.out]; rfl
  have y1 : W1.cell? ⟨w.heap.size, 1, none⟩ = some (.bool a0_1) := by rw [World.cell?, HX1.out]; rfl
  have y2 : W1.cell? ⟨w.heap.size, 2, none⟩ = some (.int .i64 a0_2) := by rw [World.cell?, HX1.out]; rfl
  have y3 : W1.cell? ⟨w.heap.size, 3, none⟩ = some (.int .i64 a0_3) := by rw [World.cell?, HX1.out]; rfl
  have y4 : W1.cell? ⟨w.heap.size, 4, none⟩ = some (.int .i64 a0_4) := by rw [World.cell?, HX1.out]; rfl
  have y5 : W1.cell? ⟨w.heap.size, 5, none⟩ = some (.int .i64 a0_5) := by rw [World.cell?, HX1.out]; rfl
  have y6 : W1.cell? ⟨w.heap.size, 6, none⟩ = some (.int .i64 a0_6) := by rw [World.cell?, HX1.out]; rfl
  have y7 : W1.cell? ⟨w.heap.size, 7, none⟩ = some (.int .i64 a0_7) := by rw [World.cell?, HX1.out]; rfl
  have y8 : W1.cell? ⟨w.heap.size, 8, none⟩ = some (.int .i64 a0_8) := by rw [World.cell?, HX1.out]; rfl
  have y9 : W1.cell? ⟨w.heap.size, 9, none⟩ = some (.bool a0_9) := by rw [World.cell?, HX1.out]; rfl
  have y10 : W1.cell? ⟨w.heap.size, 10, none⟩ = some (.bool a0_10) := by rw [World.cell?, HX1.out]; rfl
  have y11 : W1.cell? ⟨w.heap.size, 11, none⟩ = some (.int .i64 a0_11) := by rw [World.cell?, HX1.out]; rfl
  have y12 : W1.cell? ⟨w.heap.size, 12, none⟩ = some (.int .i64 a0_12) := by rw [World.cell?, HX1.out]; rfl
  have y13 : W1.cell? ⟨w.heap.size, 13, none⟩ = some (.int .i64 a0_13) := by rw [World.cell?, HX1.out]; rfl
  have y14 : W1.cell? ⟨w.heap.size, 14, none⟩ = some (.int .i64 a0_14) := by rw [World.cell?, HX1.out]; rfl
  have y15 : W1.cell? ⟨w.heap.size, 15, none⟩ = some (.int .i64 a0_15) := by rw [World.cell?, HX1.out]; rfl
  have y16 : W1.cell? ⟨w.heap.size, 16, none⟩ = some (.int .i64 a0_16) := by rw [World.cell?, HX1.out]; rfl
  have y17 : W1.cell? ⟨w.heap.size, 17, none⟩ = some (.slice A0_17 l0_17.length c0_17) := by rw [World.cell?, HX1.out]; rfl
  have y18 : W1.cell? ⟨w.heap.size, 18, none⟩ = some (.string a0_18) := by rw [World.cell?, HX1.out]; rfl
  go_wp2_with fail
  refine (ints_c (w.heap.size + 1) (w.heap.size + 1) st.1 st.2 row1 2 (some ⟨W1.heap.size, 0, none⟩) 1 [a0_2] st2 _ (HW1.out.below (below_alloc (Below.refl _ _) _)) (by have := HL1.out; simp; omega) (by simp) (fresh_row [a0_2] (by simp) HW1.out.lt (fun k hk => (HW1.out.row_ k hk).2) _ rfl) E2.out).mono ?_
  rintro en W2 ⟨rfl, row2, h1, h2, h3, h4⟩
  have HW2 := Lib.hid h1
  have HB2 := Lib.hid (HB1.out.trans ((below_alloc (Below.refl W1.heap.size W1) _).mono HL1.out |>.trans h3))
  have HL2 := Lib.hid (Nat.le_trans HL0.out HB2.out.size)
  have HX2 := Lib.hid ((HB2.out.block w.heap.size (by omega)).trans HX0.out)
  clear h1 h2 h3 h4
  clear y0 y1 y2 y3 y4 y5 y6 y7 y8 y9 y10 y11 y12 y13 y14 y15 y16 y17 y18
  have y0 : W2.cell? ⟨w.heap.size, 0, none⟩ = some (.int .i64 6) := by rw [World.cell?, HX2.out]; rfl
  have y1 : W2.cell? ⟨w.heap.size, 1, none⟩ = some (.bool a0_1) := by rw [World.cell?, HX2.out]; rfl
  have y2 : W2.cell? ⟨w.heap.size, 2, none⟩ = some (.int .i64 a0_2) := by rw [World.cell?, HX2.out]; rfl
  have y3 : W2.cell? ⟨w.heap.size, 3, none⟩ = some (.int .i64 a0_3) := by rw [World.cell?, HX2.out]; rfl
  have y4 : W2.cell? ⟨w.heap.size, 4, none⟩ = some (.int .i64 a0_4) := by rw [World.cell?, HX2.out]; rfl
  have y5 : W2.cell? ⟨w.heap.size, 5, none⟩ = some (.int .i64 a0_5) := by rw [World.cell?, HX2.out]; rfl
  have y6 : W2.cell? ⟨w.heap.size, 6, none⟩ = some (.int .i64 a0_6) := by rw [World.cell?, HX2.out]; rfl
  have y7 : W2.cell? ⟨w.heap.size, 7, none⟩ = some (.int .i64 a0_7) := by rw [World.cell?, HX2.out]; rfl
  have y8 : W2.cell? ⟨w.heap.size, 8, none⟩ = some (.int .i64 a0_8) := by rw [World.cell?, HX2.out]; rfl
  have y9 : W2.cell? ⟨w.heap.size, 9, none⟩ = some (.bool a0_9) := by rw [World.cell?, HX2.out]; rfl
  have y10 : W2.cell? ⟨w.heap.size, 10, none⟩ = some (.bool a0_10) := by rw [World.cell?, HX2.out]; rfl
  have y11 : W2.cell? ⟨w.heap.size, 11, none⟩ = some (.int .i64 a0_11) := by rw [World.cell?, HX2.out]; rfl
  have y12 : W2.cell? ⟨w.heap.size, 12, none⟩ = some (.int .i64 a0_12) := by rw [World.cell?, HX2.out]; rfl
  have y13 : W2.cell? ⟨w.heap.size, 13, none⟩ = some (.int .i64 a0_13) := by rw [World.cell?, HX2.out]; rfl
  have y14 : W2.cell? ⟨w.heap.size, 14, none⟩ = some (.int .i64 a0_14) := by rw [World.cell?, HX2.out]; rfl
  have y15 : W2.cell? ⟨w.heap.size, 15, none⟩ = some (.int .i64 a0_15) := by rw [World.cell?, HX2.out]; rfl
  have y16 : W2.cell? ⟨w.heap.size, 16, none⟩ = some (.int .i64 a0_16) := by rw [World.cell?, HX2.out]; rfl
  have y17 : W2.cell? ⟨w.heap.size, 17, none⟩ = some (.slice A0_17 l0_17.length c0_17) := by rw [World.cell?, HX2.out]; rfl
  have y18 : W2.cell? ⟨w.heap.size, 18, none⟩ = some (.string a0_18) := by rw [World.cell?, HX2.out]; rfl
  go_wp2_with fail
  refine (done_c (w.heap.size + 1) (w.heap.size + 1) (st2.1, st2.2) row2 W2 HW2.out HL2.out).mono ?_
  rintro en Wz ⟨rfl, h3⟩
  have HBz := Lib.hid (HBW.out.trans (servermsg_Say_low (HB2.out.trans h3) (Nat.le_succ _)))
  clear h3
  go_wp2_with fail
  go_ret2
  exact ⟨rfl, HBz.out⟩
 by_cases h7 : a0_0 = 7
 ·subst h7
  rw [if_neg h6, if_pos rfl] at h
  obtain ⟨st, e1, h⟩ := Option.bind_eq_some_iff.1 h
  have h := Option.some.inj h
  obtain ⟨rfl, rfl⟩ : (doneS st).1 = r1 ∧ (doneS st).2 = r2 := by rw [h]; exact ⟨rfl, rfl⟩
  have E1 := Lib.hid e1
  clear h e1 h6
  go_enter Try.func15, Try.ntmps15
  go_wp2_with fail
  try rw [hW0]
  clear hW0
  refine (ints_c (w.heap.size + 1) (w.heap.size + 1) [] 0 none 1 (some ⟨W0.heap.size, 0, none⟩) 1 [2] st _ (HW0.out.below (below_alloc (Below.refl _ _) _)) (by have := HL0.out; simp; omega) (by simp) (fresh_row [2] (by simp) HW0.out.lt (fun k hk => (HW0.out.row_ k hk).2) _ rfl) E1.out).mono ?_
  rintro en W1 ⟨rfl, row1, h1, h2, h3, h4⟩
  have HW1 := Lib.hid h1
  have HB1 := Lib.hid (HB0.out.trans ((below_alloc (Below.refl W0.heap.size W0) _).mono HL0.out |>.trans h3))
  have HL1 := Lib.hid (Nat.le_trans HL0.out HB1.out.size)
  have HX1 := Lib.hid ((HB1.out.block w.heap.size (by omega)).trans HX0.out)
  clear h1 h2 h3 h4
  clear y0 y1 y2 y3 y4 y5 y6 y7 y8 y9 y10 y11 y12 y13 y14 y15 y16 y17 y18
  have y0 : W1.cell? ⟨w.heap.size, 0, none⟩ = some (.int .i64 7) := by rw [World.cell?, HX1.out]; rfl
  have y1 : W1.cell? ⟨w.heap.size, 1, none⟩ = some (.bool a0_1) := by rw [World.cell?, HX1.out]; rfl
  have y2 : W1.cell? ⟨w.heap.size, 2, none⟩ = some (.int .i64 a0_2) := by rw [World.cell?, HX1.out]; rfl
  have y3 : W1.cell? ⟨w.heap.size, 3, none⟩ = some (.int .i64 a0_3) := by rw [World.cell?, HX1.out]; rfl
  have y4 : W1.cell? ⟨w.heap.size, 4, none⟩ = some (.int .i64 a0_4) := by rw [World.cell?, HX1.out]; rfl
  have y5 : W1.cell? ⟨w.heap.size, 5, none⟩ = some (.int .i64 a0_5) := by rw [World.cell?, HX1.out]; rfl
  have y6 : W1.cell? ⟨w.heap.size, 6, none⟩ = some (.int .i64 a0_6) := by rw [World.cell?, HX1.out]; rfl
  have y7 : W1.cell? ⟨w.heap.size, 7, none⟩ = some (.int .i64 a0_7) := by rw [World.cell?, HX1.out]; rfl
  have y8 : W1.cell? ⟨w.heap.size, 8, none⟩ = some (.int .i64 a0_8) := by rw [World.cell?, HX1.out]; rfl
  have y9 : W1.cell? ⟨w.heap.size, 9, none⟩ = some (.bool a0_9) := by rw [World.cell?, HX1.out]; rfl
  have y10 : W1.cell? ⟨w.heap.size, 10, none⟩ = some (.bool a0_10) := by rw [World.cell?, HX1.out]; rfl
  have y11 : W1.cell? ⟨w.heap.size, 11, none⟩ = some (.int .i64 a0_11) := by rw [World.cell?, HX1.out]; rfl
  have y12 : W1.cell? ⟨w.heap.size, 12, none⟩ = some (.int .i64 a0_12) := by rw [World.cell?, HX1.out]; rfl
  have y13 : W1.cell? ⟨w.heap.size, 13, none⟩ = some (.int .i64 a0_13) := by rw [World.cell?, HX1.out]; rfl
  have y14 : W1.cell? ⟨w.heap.size, 14, none⟩ = some (.int .i64 a0_14) := by rw [World.cell?, HX1.out]; rfl
  have y15 : W1.cell? ⟨w.heap.size, 15, none⟩ = some (.int .i64 a0_15) := by rw [World.cell?, HX1.out]; rfl
  have y16 : W1.cell? ⟨w.heap.size, 16, none⟩ = some (.int .i64 a0_16) := by rw [World.cell?, HX1.out]; rfl
  have y17 : W1.cell? ⟨w.heap.size, 17, none⟩ = some (.slice A0_17 l0_17.length c0_17) := by rw [World.cell?, HX1.out]; rfl
  have y18 : W1.cell? ⟨w.heap.size, 18, none⟩ = some (.string a0_18) := by rw [World.cell?, HX1.out]; rfl
  go_wp2_with fail
  refine (done_c (w.heap.size + 1) (w.heap.size + 1) (st.1, st.2) row1 W1 HW1.out HL1.out).mono ?_
  rintro en Wz ⟨rfl, h3⟩
  have HBz := Lib.hid (HBW.out.trans (servermsg_Say_low (HB1.out.trans h3) (Nat.le_succ _)))
  clear h3
  go_wp2_with fail
  go_ret2
  exact ⟨rfl, HBz.out⟩
 by_cases h5 : a0_0 = 5
 ·subst h5
  rw [if_neg h6, if_neg h7, if_pos rfl] at h
  by_cases hlen : a0_18.size ≤ 140737488351232
  case neg => rw [if_neg hlen] at h; cases h
  rw [if_pos hlen] at h
  obtain ⟨st, e1, h⟩ := Option.bind_eq_some_iff.1 h
  obtain ⟨st2, e2, h⟩ := Option.bind_eq_some_iff.1 h
  have h := Option.some.inj h
  obtain ⟨rfl, rfl⟩ : (doneS st2).1 = r1 ∧ (doneS st2).2 = r2 := by rw [h]; exact ⟨rfl, rfl⟩
  have E1 := Lib.hid e1
  have E2 := Lib.hid e2
  have HLEN := Lib.hid hlen
  clear h e1 e2 h6 h7 hlen
  go_enter Try.func15, Try.ntmps15
  go_wp2_with fail
  try rw [hW0]
  clear hW0
  refine (ints_c (w.heap.size + 1) (w.heap.size + 1) [] 0 none 1 (some ⟨W0.heap.size, 0, none⟩) 4 [3, 0, 0, 0] st _ (HW0.out.below (below_alloc (Below.refl _ _) _)) (by have := HL0.out; simp; omega) (by simp) (fresh_row [3, 0, 0, 0] (by simp) HW0.out.lt (fun k hk => (HW0.out.row_ k hk).2) _ rfl) E1.out).mono ?_
  rintro en W1 ⟨rfl, row1, h1, h2, h3, h4⟩
  have HW1 := Lib.hid h1
  have HB1 := Lib.hid (HB0.out.trans ((below_alloc (Below.refl W0.heap.size W0) _).mono HL0.out |>.trans h3))
  have HL1 := Lib.hid (Nat.le_trans HL0.out HB1.out.size)
  have HX1 := Lib.hid ((HB1.out.block w.heap.size (by omega)).trans HX0.out)
  clear h1 h2 h3 h4
  clear y0 y1 y2 y3 y4 y5 y6 y7 y8 y9 y10 y11 y12 y13 y14 y15 y16 y17 y18
  have y0 : W1.cell? ⟨w.heap.size, 0, none⟩ = some (.int .i64 5) := by rw [World.cell?, HX1.out]; rfl
  have y1 : W1.cell? ⟨w.heap.size, 1, none⟩ = some (.bool a0_1) := by rw [World.cell?, HX1.out]; rfl
  have y2 : W1.cell? ⟨w.heap.size, 2, none⟩ = some (.int .i64 a0_2) := by rw [World.cell?, HX1.out]; rfl
  have y3 : W1.cell? ⟨w.heap.size, 3, none⟩ = some (.int .i64 a0_3) := by rw [World.cell?, HX1.out]; rfl
  have y4 : W1.cell? ⟨w.heap.size, 4, none⟩ = some (.int .i64 a0_4) := by rw [World.cell?, HX1.out]; rfl
  have y5 : W1.cell? ⟨w.heap.size, 5, none⟩ = some (.int .i64 a0_5) := by rw [World.cell?, HX1.out]; rfl
  have y6 : W1.cell? ⟨w.heap.size, 6, none⟩ = some (.int .i64 a0_6) := by rw [World.cell?, HX1.out]; rfl
  have y7 : W1.cell? ⟨w.heap.size, 7, none⟩ = some (.int .i64 a0_7) := by rw [World.cell?, HX1.out]; rfl
  have y8 : W1.cell? ⟨w.heap.size, 8, none⟩ = some (.int .i64 a0_8) := by rw [World.cell?, HX1.out]; rfl
  have y9 : W1.cell? ⟨w.heap.size, 9, none⟩ = some (.bool a0_9) := by rw [World.cell?, HX1.out]; rfl
  have y10 : W1.cell? ⟨w.heap.size, 10, none⟩ = some (.bool a0_10) := by rw [World.cell?, HX1.out]; rfl
  have y11 : W1.cell? ⟨w.heap.size, 11, none⟩ = some (.int .i64 a0_11) := by rw [World.cell?, HX1.out]; rfl
  have y12 : W1.cell? ⟨w.heap.size, 12, none⟩ = some (.int .i64 a0_12) := by rw [World.cell?, HX1.out]; rfl
  have y13 : W1.cell? ⟨w.heap.size, 13, none⟩ = some (.int .i64 a0_13) := by rw [World.cell?, HX1.out]; rfl
  have y14 : W1.cell? ⟨w.heap.size, 14, none⟩ = some (.int .i64 a0_14) := by rw [World.cell?, HX1.out]; rfl
  have y15 : W1.cell? ⟨w.heap.size, 15, none⟩ = some (.int .i64 a0_15) := by rw [World.cell?, HX1.out]; rfl
  have y16 : W1.cell? ⟨w.heap.size, 16, none⟩ = some (.int .i64 a0_16) := by rw [World.cell?, HX1.out]; rfl
  have y17 : W1.cell? ⟨w.heap.size, 17, none⟩ = some (.slice A0_17 l0_17.length c0_17) := by rw [World.cell?, HX1.out]; rfl
  have y18 : W1.cell? ⟨w.heap.size, 18, none⟩ = some (.string a0_18) := by rw [World.cell?, HX1.out]; rfl
  go_wp2_with fail
  refine (text_c (w.heap.size + 1) (w.heap.size + 1) st.1 st.2 row1 a0_18 st2 W1 HW1.out HL1.out HLEN.out E2.out).mono ?_
  rintro en W2 ⟨rfl, row2, h1, h2, h3, h4⟩
  have HW2 := Lib.hid h1
  have HB2 := Lib.hid (HB1.out.trans (h3))
  have HL2 := Lib.hid (Nat.le_trans HL0.out HB2.out.size)
  have HX2 := Lib.hid ((HB2.out.block w.heap.size (by omega)).trans HX0.out)
  clear h1 h2 h3 h4
  clear y0 y1 y2 y3 y4 y5 y6 y7 y8 y9 y10 y11 y12 y13 y14 y15 y16 y17 y18
  have y0 : W2.cell? ⟨w.heap.size, 0, none⟩ = some (.int .i64 5) := by rw [World.cell?, HX2.out]; rfl
  have y1 : W2.cell? ⟨w.heap.size, 1, none⟩ = some (.bool a0_1) := by rw [World.cell?, HX2.out]; rfl
  have y2 : W2.cell? ⟨w.heap.size, 2, none⟩ = some (.int .i64 a0_2) := by rw [World.cell?, HX2.out]; rfl
  have y3 : W2.cell? ⟨w.heap.size, 3, none⟩ = some (.int .i64 a0_3) := by rw [World.cell?, HX2.out]; rfl
  have y4 : W2.cell? ⟨w.heap.size, 4, none⟩ = some (.int .i64 a0_4) := by rw [World.cell?, HX2.out]; rfl
  have y5 : W2.cell? ⟨w.heap.size, 5, none⟩ = some (.int .i64 a0_5) := by rw [World.cell?, HX2.out]; rfl
  have y6 : W2.cell? ⟨w.heap.size, 6, none⟩ = some (.int .i64 a0_6) := by rw [World.cell?, HX2.out]; rfl
  have y7 : W2.cell? ⟨w.heap.size, 7, none⟩ = some (.int .i64 a0_7) := by rw [World.cell?, HX2.out]; rfl
  have y8 : W2.cell? ⟨w.heap.size, 8, none⟩ = some (.int .i64 a0_8) := by rw [World.cell?, HX2.out]; rfl
  have y9 : W2.cell? ⟨w.heap.size, 9, none⟩ = some (.bool a0_9) := by rw [World.cell?, HX2.out]; rfl
  have y10 : W2.cell? ⟨w.heap.size, 10, none⟩ = some (.bool a0_10) := by rw [World.cell?, HX2.out]; rfl
  have y11 : W2.cell? ⟨w.heap.size, 11, none⟩ = some (.int .i64 a0_11) := by rw [World.cell?, HX2.out]; rfl
  have y12 : W2.cell? ⟨w.heap.size, 12, none⟩ = some (.int .i64 a0_12) := by rw [World.cell?, HX2.out]; rfl
  have y13 : W2.cell? ⟨w.heap.size, 13, none⟩ = some (.int .i64 a0_13) := by rw [World.cell?, HX2.out]; rfl
  have y14 : W2.cell? ⟨w.heap.size, 14, none⟩ = some (.int .i64 a0_14) := by rw [World.cell?, HX2.out]; rfl
  have y15 : W2.cell? ⟨w.heap.size, 15, none⟩ = some (.int .i64 a0_15) := by rw [World.cell?, HX2.out]; rfl
  have y16 : W2.cell? ⟨w.heap.size, 16, none⟩ = some (.int .i64 a0_16) := by rw [World.cell?, HX2.out]; rfl
  have y17 : W2.cell? ⟨w.heap.size, 17, none⟩ = some (.slice A0_17 l0_17.length c0_17) := by rw [World.cell?, HX2.out]; rfl
  have y18 : W2.cell? ⟨w.heap.size, 18, none⟩ = some (.string a0_18) := by rw [World.cell?, HX2.out]; rfl
  go_wp2_with fail
  refine (done_c (w.heap.size + 1) (w.heap.size + 1) (st2.1, st2.2) row2 W2 HW2.out HL2.out).mono ?_
  rintro en Wz ⟨rfl, h3⟩
  have HBz := Lib.hid (HBW.out.trans (servermsg_Say_low (HB2.out.trans h3) (Nat.le_succ _)))
  clear h3
  go_wp2_with fail
  go_ret2
  exact ⟨rfl, HBz.out⟩
 rw [if_neg h6, if_neg h7, if_neg h5] at h
 have h := Option.some.inj h
 obtain ⟨rfl, rfl⟩ : (doneS ([], 1)).1 = r1 ∧ (doneS ([], 1)).2 = r2 := by rw [h]; exact ⟨rfl, rfl⟩
 have d6 : (a0_0 == 6) = false := by simpa using h6
 have d7 : (a0_0 == 7) = false := by simpa using h7
 have d5 : (a0_0 == 5) = false := by simpa using h5
 clear h h5 h6 h7
 go_enter Try.func15, Try.ntmps15
 go_wp2_with fail
 try rw [hW0]
 clear hW0
 refine (check_c (w.heap.size + 1) (w.heap.size + 1) [] 0 none false 1 W0 HW0.out).mono ?_
 rintro en W1 ⟨rfl, h1, h3, h4⟩
 have HW1 := Lib.hid h1
 have HB1 := Lib.hid (HB0.out.trans (h3))
 have HL1 := Lib.hid (Nat.le_trans HL0.out HB1.out.size)
 have HX1 := Lib.hid ((HB1.out.block w.heap.size (by omega)).trans HX0.out)
 clear h1 h3 h4
 clear y0 y1 y2 y3 y4 y5 y6 y7 y8 y9 y10 y11 y12 y13 y14 y15 y16 y17 y18
 have y0 : W1.cell? ⟨w.heap.size, 0, none⟩ = some (.int .i64 a0_0) := by rw [World.cell?, HX1.out]; rfl
 have y1 : W1.cell? ⟨w.heap.size, 1, none⟩ = some (.bool a0_1) := by rw [World.cell?, HX1.out]; rfl
 have y2 : W1.cell? ⟨w.heap.size, 2, none⟩ = some (.int .i64 a0_2) := by rw [World.cell?, HX1.out]; rfl
 have y3 : W1.cell? ⟨w.heap.size, 3, none⟩ = some (.int .i64 a0_3) := by rw [World.cell?, HX1.out]; rfl
 have y4 : W1.cell? ⟨w.heap.size, 4, none⟩ = some (.int .i64 a0_4) := by rw [World.cell?, HX1.out]; rfl
 have y5 : W1.cell? ⟨w.heap.size, 5, none⟩ = some (.int .i64 a0_5) := by rw [World.cell?, HX1.out]; rfl
 have y6 : W1.cell? ⟨w.heap.size, 6, none⟩ = some (.int .i64 a0_6) := by rw [World.cell?, HX1.out]; rfl
 have y7 : W1.cell? ⟨w.heap.size, 7, none⟩ = some (.int .i64 a0_7) := by rw [World.cell?, HX1.out]; rfl
 have y8 : W1.cell? ⟨w.heap.size, 8, none⟩ = some (.int .i64 a0_8) := by rw [World.cell?, HX1.out]; rfl
 have y9 : W1.cell? ⟨w.heap.size, 9, none⟩ = some (.bool a0_9) := by rw [World.cell?, HX1.out]; rfl
 have y10 : W1.cell? ⟨w.heap.size, 10, none⟩ = some (.bool a0_10) := by rw [World.cell?, HX1.out]; rfl
 have y11 : W1.cell? ⟨w.heap.size, 11, none⟩ = some (.int .i64 a0_11) := by rw [World.cell?, HX1.out]; rfl
 have y12 : W1.cell? ⟨w.heap.size, 12, none⟩ = some (.int .i64 a0_12) := by rw [World.cell?, HX1.out]; rfl
 have y13 : W1.cell? ⟨w.heap.size, 13, none⟩ = some (.int .i64 a0_13) := by rw [World.cell?, HX1.out]; rfl
 have y14 : W1.cell? ⟨w.heap.size, 14, none⟩ = some (.int .i64 a0_14) := by rw [World.cell?, HX1.out]; rfl
 have y15 : W1.cell? ⟨w.heap.size, 15, none⟩ = some (.int .i64 a0_15) := by rw [World.cell?, HX1.out]; rfl
 have y16 : W1.cell? ⟨w.heap.size, 16, none⟩ = some (.int .i64 a0_16) := by rw [World.cell?, HX1.out]; rfl
 have y17 : W1.cell? ⟨w.heap.size, 17, none⟩ = some (.slice A0_17 l0_17.length c0_17) := by rw [World.cell?, HX1.out]; rfl
 have y18 : W1.cell? ⟨w.heap.size, 18, none⟩ = some (.string a0_18) := by rw [World.cell?, HX1.out]; rfl
 go_wp2_with fail
 refine (done_c (w.heap.size + 1) (w.heap.size + 1) ([], (errW1 false 1 0)) none W1 HW1.out HL1.out).mono ?_
 rintro en Wz ⟨rfl, h3⟩
 have HBz := Lib.hid (HBW.out.trans (servermsg_Say_low (HB1.out.trans h3) (Nat.le_succ _)))
 clear h3
 go_wp2_with fail
 go_ret2
 exact ⟨rfl, HBz.out⟩

end Go.Proofs.Ytpackckoblpbfaa.X
