/- What each Go function that these laws use answers: as a Lean function, with the proof that the machine's call comes to it. Written by a program of this session (xprint.py). -/
import Derived.Test.YtpackckoblpbfaaXx0
import Derived.Test.YtpackckoblpbfaaXx3
import Derived.Test.YtpackckoblpbfaaXx7
namespace Go.Proofs.Ytpackckoblpbfaa.X
open Go.RowKit Go.Proofs.YtpackckoblpbfaaW.PrintWords Go.Proofs.YtpackckoblpbfaaW.PrintLast Go.Proofs.YtpackckoblpbfaaW.PrintMore
attribute [local go_sem] max2_int min2_int max_two min_two max_three min_three max_four min_four   -- for this text's walks alone
set_option linter.unusedVariables false
set_option linter.unusedSimpArgs false

/-! ### octets_Signed: function 45 -/
def octets_Signed.f (k : Nat) (a0 : Int) : Option (ByteArray) := if (wrap64 (wrap32 (a0))) = a0 then ((octets_Put.f k 4 ((a0) % 4294967296)).bind fun bt292 => (some bt292.1)) else (some (⟨#[]⟩ : ByteArray))
theorem octets_Signed.mono : ∀ a0 k, LeO (octets_Signed.f k a0) (octets_Signed.f (k + 1) a0) := by
 intro a0 k
 unfold octets_Signed.f
 repeat' first
   | (with_reducible exact octets_Put.mono _ _ _)
   | (with_reducible exact LeO.refl _)
   | (with_reducible exact LeO.none _)
   | (with_reducible refine LeO.ite ?_ ?_)
   | (with_reducible refine LeO.bind ?_ (fun _ => ?_))
   | exact octets_Put.mono _ _ _
   | exact LeO.none _
   | refine LeO.ite ?_ ?_
   | refine LeO.bind ?_ (fun _ => ?_)
set_option maxHeartbeats 8000000 in
set_option maxRecDepth 100000 in
theorem octets_Signed.calls (k : Nat) (a0 : Int) (r : ByteArray) (w : World) (h : octets_Signed.f k a0 = some r) :
  Calls Try.prog 45 #[.int .i64 a0] w fun e w' => e = .returned (.string r) ∧ Below w.heap.size w w' := by
 have HB := Aside0.mk (Below.refl w.heap.size w)
 have H : (if (wrap64 (wrap32 (a0))) = a0 then ((octets_Put.f k 4 ((a0) % 4294967296)).bind fun bt292 => (some bt292.1)) else (some (⟨#[]⟩ : ByteArray))) = some r := h
 clear h
 by_cases c2 : (wrap64 (wrap32 (a0))) = a0
 ·rw [if_pos c2] at H
  have c2b0 : ((wrap64 (wrap32 (a0))) == a0) = true := beq_iff_eq.mpr c2
  have c2b1 : ((wrap64 (wrap32 (a0))) != a0) = false := bne_eq_false_iff_eq.mpr c2
  clear c2
  replace H := Option.bind_eq_some_iff.mp H
  obtain ⟨⟨t292, t293⟩, A30, H⟩ := H
  replace H : (some t292) = some r := H
  have A3 := Aside0.mk A30
  clear A30
  obtain rfl := Option.some.inj H
  go_enter Try.func45, Try.ntmps45
  go_wp2_with (first | ((with_reducible refine gate_callee (f := 71) rfl ?_); refine goesL_ (some 14) rfl rfl Try.func71 (by kernel_rfl) rfl #[.int .i64 4, .int .i64 ((a0) % 4294967296)] rfl (by (try simp only [List.map_toArray, List.map_cons, List.map_nil]); first | done | rfl | (simp only [List.length_drop, List.length_take]; rfl)) ?_; (with_reducible refine (octets_Put.calls k 4 ((a0) % 4294967296) t292 t293 _ A3.out).mono ?_); rintro e w4 ⟨rfl, hb⟩; refine ⟨_, rfl, ?_⟩; have n0_ := Aside0.mk (below_step (by repeat (first | (with_reducible first | exact HB.out | apply below_alloc | apply pw_below_drewN | apply below_drew1) | exact HB.out)) hb); clear HB; have HB := n0_; clear n0_; (try clear hb); (try clear hb2); (try clear hk); (try clear hi)))
  go_ret
  exact ⟨by first | rfl | (simp [errW_none, errW_some] <;> rfl) | (simp [*, errW_none, errW_some] <;> rfl), by repeat (first | (with_reducible first | exact HB.out | apply below_alloc | apply pw_below_drewN | apply below_drew1) | exact HB.out)⟩
 ·rw [if_neg c2] at H
  have c2b0 : ((wrap64 (wrap32 (a0))) == a0) = false := beq_eq_false_iff_ne.mpr c2
  have c2b1 : ((wrap64 (wrap32 (a0))) != a0) = true := bne_iff_ne.mpr c2
  obtain rfl := Option.some.inj H
  go_enter Try.func45, Try.ntmps45
  go_wp2
  go_ret
  exact ⟨by first | rfl | (simp [errW_none, errW_some] <;> rfl) | (simp [*, errW_none, errW_some] <;> rfl), by repeat (first | (with_reducible first | exact HB.out | apply below_alloc | apply pw_below_drewN | apply below_drew1) | exact HB.out)⟩

/-! ### servermsg_Put: function 13 -/
theorem servermsg_Put_low {B B' : Nat} {W W' : World} (h : Below B W W') (hl : B' ≤ B) : Below B' W W' := ⟨h.os, h.tape, h.output, h.size, fun k hk => h.block k (by omega)⟩
theorem servermsg_Put_nil (s : ByteArray) : s.toList = ([] : List UInt8) ↔ s.size = 0 := by
 constructor
 ·intro h
  have := congrArg List.length h
  rw [ByteArray.toList_eq, Array.length_toList] at this
  exact this
 ·intro h
  rw [ByteArray.toList_eq]
  exact List.eq_nil_of_length_eq_zero (by rw [Array.length_toList]; exact h)
def servermsg_Put.f (a0_0 : Int) (a0_1 : Int) (a0_2 : Int) (a0_3 : Int) (a0_4 : Int) : Option (ByteArray × Int) := (wInts 2 [a0_0, a0_1, a0_2, a0_3] ([], 0)).bind fun st => (octets_Signed.f 100 a0_4).bind fun s => if st.1.length + s.size ≤ 140737488351232 then some (doneS (st.1 ++ s.data.toList, errW1 (decide (s.size ≠ 0)) 1 st.2)) else none
set_option maxHeartbeats 4000000 in
set_option maxRecDepth 100000 in
theorem servermsg_Put.calls (a0_0 : Int) (a0_1 : Int) (a0_2 : Int) (a0_3 : Int) (a0_4 : Int) (r1 : ByteArray) (r2 : Int) (w : World) (h : servermsg_Put.f a0_0 a0_1 a0_2 a0_3 a0_4 = some (r1, r2)) :
  Calls Try.prog 13 #[.agg #[.int .i64 a0_0, .int .i64 a0_1, .int .i64 a0_2, .int .i64 a0_3, .int .i64 a0_4]] w fun e w' => e = .returned (.tuple #[.string r1, .int .i64 r2]) ∧ Below w.heap.size w w' := by
 unfold servermsg_Put.f at h
 obtain ⟨st, e1, h⟩ := Option.bind_eq_some_iff.1 h
 obtain ⟨s, e2, h⟩ := Option.bind_eq_some_iff.1 h
 by_cases hsz : st.1.length + s.size ≤ 140737488351232
 case neg => rw [if_neg hsz] at h; cases h
 rw [if_pos hsz] at h
 have h := Option.some.inj h
 obtain ⟨st2, hst2⟩ : ∃ st2, (st.1 ++ s.data.toList, errW1 (decide (s.size ≠ 0)) 1 st.2) = st2 := ⟨_, rfl⟩
 rw [hst2] at h
 obtain ⟨rfl, rfl⟩ : (doneS st2).1 = r1 ∧ (doneS st2).2 = r2 := by rw [h]; exact ⟨rfl, rfl⟩
 subst hst2
 have E1 := Lib.hid e1
 have E2 := Lib.hid e2
 have HSZ := Lib.hid hsz
 clear h e1 e2 hsz
 obtain ⟨W0, hW0⟩ : ∃ W0, (w.alloc (.cells #[.int .i64 a0_0, .int .i64 a0_1, .int .i64 a0_2, .int .i64 a0_3, .int .i64 a0_4] 30)).alloc (.cells #[.pointer none, .slice none 0 0, .int .i64 0] 76) = W0 := ⟨_, rfl⟩
 have HX0 := Lib.hid (show W0.heap[w.heap.size]? = some (.cells #[.int .i64 a0_0, .int .i64 a0_1, .int .i64 a0_2, .int .i64 a0_3, .int .i64 a0_4] 30 (0, 0)) from by rw [← hW0]; exact (Below.heap_alloc _ _ _ (by simp)).trans (heap_alloc_new w _))
 have HB0 := Lib.hid (show Below (w.heap.size + 1) W0 W0 from Below.refl _ _)
 have HBW := Lib.hid (show Below w.heap.size w W0 from by rw [← hW0]; exact below_alloc (below_alloc (Below.refl _ _) _) _)
 have HL0 := Lib.hid (show (w.heap.size + 1) ≤ W0.heap.size from by rw [← hW0]; simp)
 have HW0 := Lib.hid (show Wr (w.heap.size + 1) (w.heap.size + 1) [] 0 none W0 from Wr.new (by rw [← hW0]; have h0 := heap_alloc_new (w.alloc (.cells #[.int .i64 a0_0, .int .i64 a0_1, .int .i64 a0_2, .int .i64 a0_3, .int .i64 a0_4] 30)) (.cells #[.pointer none, .slice none 0 0, .int .i64 0] 76); rw [World.size_alloc] at h0; exact h0) (Nat.le_refl _))
 have y0 : W0.cell? ⟨w.heap.size, 0, none⟩ = some (.int .i64 a0_0) := by rw [World.cell?, HX0.out]; rfl
 have y1 : W0.cell? ⟨w.heap.size, 1, none⟩ = some (.int .i64 a0_1) := by rw [World.cell?, HX0.out]; rfl
 have y2 : W0.cell? ⟨w.heap.size, 2, none⟩ = some (.int .i64 a0_2) := by rw [World.cell?, HX0.out]; rfl
 have y3 : W0.cell? ⟨w.heap.size, 3, none⟩ = some (.int .i64 a0_3) := by rw [World.cell?, HX0.out]; rfl
 have y4 : W0.cell? ⟨w.heap.size, 4, none⟩ = some (.int .i64 a0_4) := by rw [World.cell?, HX0.out]; rfl
 by_cases hz : s.size ≠ 0
 ·have HD := Lib.hid (show decide (s.size ≠ 0) = true from decide_eq_true hz)
  have hnb : s.toList.isEmpty = false := by cases hh : s.toList with | nil => exact absurd ((servermsg_Put_nil s).1 hh) hz | cons x l => rfl
  have hnb2 : (!s.toList.isEmpty) = true := by rw [hnb]; rfl
  have HN := Lib.hid hz
  clear hz
  rw [HD.out]
  go_enter Try.func13, Try.ntmps13
  go_wp2_with fail
  try rw [hW0]
  clear hW0
  refine (ints_c (w.heap.size + 1) (w.heap.size + 1) [] 0 none 2 (some ⟨W0.heap.size, 0, none⟩) 4 [a0_0, a0_1, a0_2, a0_3] st _ (HW0.out.below (below_alloc (Below.refl _ _) _)) (by have := HL0.out; simp; omega) (by simp) (fresh_row [a0_0, a0_1, a0_2, a0_3] (by simp) HW0.out.lt (fun k hk => (HW0.out.row_ k hk).2) _ rfl) E1.out).mono ?_
  rintro en W1 ⟨rfl, row1, h1, h2, h3, h4⟩
  have HW1 := Lib.hid h1
  have HB1 := Lib.hid (HB0.out.trans ((below_alloc (Below.refl W0.heap.size W0) _).mono HL0.out |>.trans h3))
  have HL1 := Lib.hid (Nat.le_trans HL0.out HB1.out.size)
  have HX1 := Lib.hid ((HB1.out.block w.heap.size (by omega)).trans HX0.out)
  clear h1 h2 h3 h4
  clear y0 y1 y2 y3 y4
  have y0 : W1.cell? ⟨w.heap.size, 0, none⟩ = some (.int .i64 a0_0) := by rw [World.cell?, HX1.out]; rfl
  have y1 : W1.cell? ⟨w.heap.size, 1, none⟩ = some (.int .i64 a0_1) := by rw [World.cell?, HX1.out]; rfl
  have y2 : W1.cell? ⟨w.heap.size, 2, none⟩ = some (.int .i64 a0_2) := by rw [World.cell?, HX1.out]; rfl
  have y3 : W1.cell? ⟨w.heap.size, 3, none⟩ = some (.int .i64 a0_3) := by rw [World.cell?, HX1.out]; rfl
  have y4 : W1.cell? ⟨w.heap.size, 4, none⟩ = some (.int .i64 a0_4) := by rw [World.cell?, HX1.out]; rfl
  go_wp2_with fail
  refine (octets_Signed.calls 100 a0_4 s W1 E2.out).mono ?_
  rintro en W2 ⟨rfl, h3⟩
  have HW2 := Lib.hid (HW1.out.below h3)
  have HB2 := Lib.hid (HB1.out.trans (h3.mono HL1.out))
  have HL2 := Lib.hid (Nat.le_trans HL0.out HB2.out.size)
  have HX2 := Lib.hid ((HB2.out.block w.heap.size (by omega)).trans HX0.out)
  clear h3
  clear y0 y1 y2 y3 y4
  have y0 : W2.cell? ⟨w.heap.size, 0, none⟩ = some (.int .i64 a0_0) := by rw [World.cell?, HX2.out]; rfl
  have y1 : W2.cell? ⟨w.heap.size, 1, none⟩ = some (.int .i64 a0_1) := by rw [World.cell?, HX2.out]; rfl
  have y2 : W2.cell? ⟨w.heap.size, 2, none⟩ = some (.int .i64 a0_2) := by rw [World.cell?, HX2.out]; rfl
  have y3 : W2.cell? ⟨w.heap.size, 3, none⟩ = some (.int .i64 a0_3) := by rw [World.cell?, HX2.out]; rfl
  have y4 : W2.cell? ⟨w.heap.size, 4, none⟩ = some (.int .i64 a0_4) := by rw [World.cell?, HX2.out]; rfl
  go_wp2_with fail
  refine (check_c (w.heap.size + 1) (w.heap.size + 1) st.1 st.2 row1 true 1 W2 HW2.out).mono ?_
  rintro en W3 ⟨rfl, h1, h3, h4⟩
  have HW3 := Lib.hid h1
  have HB3 := Lib.hid (HB2.out.trans (h3))
  have HL3 := Lib.hid (Nat.le_trans HL0.out HB3.out.size)
  have HX3 := Lib.hid ((HB3.out.block w.heap.size (by omega)).trans HX0.out)
  clear h1 h3 h4
  clear y0 y1 y2 y3 y4
  have y0 : W3.cell? ⟨w.heap.size, 0, none⟩ = some (.int .i64 a0_0) := by rw [World.cell?, HX3.out]; rfl
  have y1 : W3.cell? ⟨w.heap.size, 1, none⟩ = some (.int .i64 a0_1) := by rw [World.cell?, HX3.out]; rfl
  have y2 : W3.cell? ⟨w.heap.size, 2, none⟩ = some (.int .i64 a0_2) := by rw [World.cell?, HX3.out]; rfl
  have y3 : W3.cell? ⟨w.heap.size, 3, none⟩ = some (.int .i64 a0_3) := by rw [World.cell?, HX3.out]; rfl
  have y4 : W3.cell? ⟨w.heap.size, 4, none⟩ = some (.int .i64 a0_4) := by rw [World.cell?, HX3.out]; rfl
  go_wp2_with fail
  refine (write_c (w.heap.size + 1) (w.heap.size + 1) st.1 (errW1 true 1 st.2) row1 s W3 HW3.out (by have := HSZ.out; omega) HL3.out).mono ?_
  rintro en W4 ⟨rfl, row4, h1, h2, h3, h4⟩
  have HW4 := Lib.hid h1
  have HB4 := Lib.hid (HB3.out.trans (h3))
  have HL4 := Lib.hid (Nat.le_trans HL0.out HB4.out.size)
  have HX4 := Lib.hid ((HB4.out.block w.heap.size (by omega)).trans HX0.out)
  clear h1 h2 h3 h4
  clear y0 y1 y2 y3 y4
  have y0 : W4.cell? ⟨w.heap.size, 0, none⟩ = some (.int .i64 a0_0) := by rw [World.cell?, HX4.out]; rfl
  have y1 : W4.cell? ⟨w.heap.size, 1, none⟩ = some (.int .i64 a0_1) := by rw [World.cell?, HX4.out]; rfl
  have y2 : W4.cell? ⟨w.heap.size, 2, none⟩ = some (.int .i64 a0_2) := by rw [World.cell?, HX4.out]; rfl
  have y3 : W4.cell? ⟨w.heap.size, 3, none⟩ = some (.int .i64 a0_3) := by rw [World.cell?, HX4.out]; rfl
  have y4 : W4.cell? ⟨w.heap.size, 4, none⟩ = some (.int .i64 a0_4) := by rw [World.cell?, HX4.out]; rfl
  go_wp2_with fail
  refine (done_c (w.heap.size + 1) (w.heap.size + 1) ((st.1 ++ s.data.toList), (errW1 true 1 st.2)) row4 W4 HW4.out HL4.out).mono ?_
  rintro en Wz ⟨rfl, h3⟩
  have HBz := Lib.hid (HBW.out.trans (servermsg_Put_low (HB4.out.trans h3) (Nat.le_succ _)))
  clear h3
  go_wp2_with fail
  go_ret2
  exact ⟨rfl, HBz.out⟩
 ·have HD := Lib.hid (show decide (s.size ≠ 0) = false from decide_eq_false hz)
  have hn : s.toList = ([] : List UInt8) := (servermsg_Put_nil s).2 (by omega)
  clear hz
  rw [HD.out]
  go_enter Try.func13, Try.ntmps13
  go_wp2_with fail
  try rw [hW0]
  clear hW0
  refine (ints_c (w.heap.size + 1) (w.heap.size + 1) [] 0 none 2 (some ⟨W0.heap.size, 0, none⟩) 4 [a0_0, a0_1, a0_2, a0_3] st _ (HW0.out.below (below_alloc (Below.refl _ _) _)) (by have := HL0.out; simp; omega) (by simp) (fresh_row [a0_0, a0_1, a0_2, a0_3] (by simp) HW0.out.lt (fun k hk => (HW0.out.row_ k hk).2) _ rfl) E1.out).mono ?_
  rintro en W1 ⟨rfl, row1, h1, h2, h3, h4⟩
  have HW1 := Lib.hid h1
  have HB1 := Lib.hid (HB0.out.trans ((below_alloc (Below.refl W0.heap.size W0) _).mono HL0.out |>.trans h3))
  have HL1 := Lib.hid (Nat.le_trans HL0.out HB1.out.size)
  have HX1 := Lib.hid ((HB1.out.block w.heap.size (by omega)).trans HX0.out)
  clear h1 h2 h3 h4
  clear y0 y1 y2 y3 y4
  have y0 : W1.cell? ⟨w.heap.size, 0, none⟩ = some (.int .i64 a0_0) := by rw [World.cell?, HX1.out]; rfl
  have y1 : W1.cell? ⟨w.heap.size, 1, none⟩ = some (.int .i64 a0_1) := by rw [World.cell?, HX1.out]; rfl
  have y2 : W1.cell? ⟨w.heap.size, 2, none⟩ = some (.int .i64 a0_2) := by rw [World.cell?, HX1.out]; rfl
  have y3 : W1.cell? ⟨w.heap.size, 3, none⟩ = some (.int .i64 a0_3) := by rw [World.cell?, HX1.out]; rfl
  have y4 : W1.cell? ⟨w.heap.size, 4, none⟩ = some (.int .i64 a0_4) := by rw [World.cell?, HX1.out]; rfl
  go_wp2_with fail
  refine (octets_Signed.calls 100 a0_4 s W1 E2.out).mono ?_
  rintro en W2 ⟨rfl, h3⟩
  have HW2 := Lib.hid (HW1.out.below h3)
  have HB2 := Lib.hid (HB1.out.trans (h3.mono HL1.out))
  have HL2 := Lib.hid (Nat.le_trans HL0.out HB2.out.size)
  have HX2 := Lib.hid ((HB2.out.block w.heap.size (by omega)).trans HX0.out)
  clear h3
  clear y0 y1 y2 y3 y4
  have y0 : W2.cell? ⟨w.heap.size, 0, none⟩ = some (.int .i64 a0_0) := by rw [World.cell?, HX2.out]; rfl
  have y1 : W2.cell? ⟨w.heap.size, 1, none⟩ = some (.int .i64 a0_1) := by rw [World.cell?, HX2.out]; rfl
  have y2 : W2.cell? ⟨w.heap.size, 2, none⟩ = some (.int .i64 a0_2) := by rw [World.cell?, HX2.out]; rfl
  have y3 : W2.cell? ⟨w.heap.size, 3, none⟩ = some (.int .i64 a0_3) := by rw [World.cell?, HX2.out]; rfl
  have y4 : W2.cell? ⟨w.heap.size, 4, none⟩ = some (.int .i64 a0_4) := by rw [World.cell?, HX2.out]; rfl
  go_wp2_with fail
  refine (check_c (w.heap.size + 1) (w.heap.size + 1) st.1 st.2 row1 false 1 W2 HW2.out).mono ?_
  rintro en W3 ⟨rfl, h1, h3, h4⟩
  have HW3 := Lib.hid h1
  have HB3 := Lib.hid (HB2.out.trans (h3))
  have HL3 := Lib.hid (Nat.le_trans HL0.out HB3.out.size)
  have HX3 := Lib.hid ((HB3.out.block w.heap.size (by omega)).trans HX0.out)
  clear h1 h3 h4
  clear y0 y1 y2 y3 y4
  have y0 : W3.cell? ⟨w.heap.size, 0, none⟩ = some (.int .i64 a0_0) := by rw [World.cell?, HX3.out]; rfl
  have y1 : W3.cell? ⟨w.heap.size, 1, none⟩ = some (.int .i64 a0_1) := by rw [World.cell?, HX3.out]; rfl
  have y2 : W3.cell? ⟨w.heap.size, 2, none⟩ = some (.int .i64 a0_2) := by rw [World.cell?, HX3.out]; rfl
  have y3 : W3.cell? ⟨w.heap.size, 3, none⟩ = some (.int .i64 a0_3) := by rw [World.cell?, HX3.out]; rfl
  have y4 : W3.cell? ⟨w.heap.size, 4, none⟩ = some (.int .i64 a0_4) := by rw [World.cell?, HX3.out]; rfl
  go_wp2_with fail
  refine (write_c (w.heap.size + 1) (w.heap.size + 1) st.1 (errW1 false 1 st.2) row1 s W3 HW3.out (by have := HSZ.out; omega) HL3.out).mono ?_
  rintro en W4 ⟨rfl, row4, h1, h2, h3, h4⟩
  have HW4 := Lib.hid h1
  have HB4 := Lib.hid (HB3.out.trans (h3))
  have HL4 := Lib.hid (Nat.le_trans HL0.out HB4.out.size)
  have HX4 := Lib.hid ((HB4.out.block w.heap.size (by omega)).trans HX0.out)
  clear h1 h2 h3 h4
  clear y0 y1 y2 y3 y4
  have y0 : W4.cell? ⟨w.heap.size, 0, none⟩ = some (.int .i64 a0_0) := by rw [World.cell?, HX4.out]; rfl
  have y1 : W4.cell? ⟨w.heap.size, 1, none⟩ = some (.int .i64 a0_1) := by rw [World.cell?, HX4.out]; rfl
  have y2 : W4.cell? ⟨w.heap.size, 2, none⟩ = some (.int .i64 a0_2) := by rw [World.cell?, HX4.out]; rfl
  have y3 : W4.cell? ⟨w.heap.size, 3, none⟩ = some (.int .i64 a0_3) := by rw [World.cell?, HX4.out]; rfl
  have y4 : W4.cell? ⟨w.heap.size, 4, none⟩ = some (.int .i64 a0_4) := by rw [World.cell?, HX4.out]; rfl
  go_wp2_with fail
  refine (done_c (w.heap.size + 1) (w.heap.size + 1) ((st.1 ++ s.data.toList), (errW1 false 1 st.2)) row4 W4 HW4.out HL4.out).mono ?_
  rintro en Wz ⟨rfl, h3⟩
  have HBz := Lib.hid (HBW.out.trans (servermsg_Put_low (HB4.out.trans h3) (Nat.le_succ _)))
  clear h3
  go_wp2_with fail
  go_ret2
  exact ⟨rfl, HBz.out⟩

end Go.Proofs.Ytpackckoblpbfaa.X
