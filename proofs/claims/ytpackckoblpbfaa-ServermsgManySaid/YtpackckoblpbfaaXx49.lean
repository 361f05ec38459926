/- What each Go function that these laws use answers: as a Lean function, with the proof that the machine's call comes to it. Written by a program of this session (xprint.py). -/
import Derived.Test.YtpackckoblpbfaaXx0
import Derived.Test.YtpackckoblpbfaaXx16
import Derived.Test.YtpackckoblpbfaaXx17
import Derived.Test.YtpackckoblpbfaaXx18
namespace Go.Proofs.Ytpackckoblpbfaa.X
open Go.RowKit Go.Proofs.YtpackckoblpbfaaW.PrintWords Go.Proofs.YtpackckoblpbfaaW.PrintLast Go.Proofs.YtpackckoblpbfaaW.PrintMore
attribute [local go_sem] max2_int min2_int max_two min_two max_three min_three max_four min_four   -- for this text's walks alone
set_option linter.unusedVariables false
set_option linter.unusedSimpArgs false

/-! ### servermsg_HeadOf: function 27 -/
section
def headS (q : RS) : Option ((Int × Int × Int × Int × Int) × RS) := (intS q 2).bind fun p0 => (intS p0.2 2).bind fun p1 => (intS p1.2 2).bind fun p2 => (intS p2.2 2).bind fun p3 => (signedS p3.2).bind fun p4 => some ((p0.1, p1.1, p2.1, p3.1, p4.1), p4.2)
theorem exec_store_head (ρ : Operand → Value) (d : Option Tmp) (x y : Operand) (ty : TypeId) (ps : String) (af : Array Edge) (gd : Option (Nat × Bool)) (P : Program) (W : World) : (execOp ρ ⟨d, .store 30 x y, ty, ps, af, gd⟩).run P W = stOut P 30 W (ρ x) (ρ y) := rfl
theorem exec_load_head (ρ : Operand → Value) (d : Option Tmp) (x : Operand) (ty : TypeId) (ps : String) (af : Array Edge) (gd : Option (Nat × Bool)) (P : Program) (W : World) : (execOp ρ ⟨d, .load 30 x, ty, ps, af, gd⟩).run P W = ldOut P 30 W (ρ x) := rfl
theorem store_head (W : World) (g : Nat) (x0 : Int) (x1 : Int) (x2 : Int) (x3 : Int) (x4 : Int) (h : rowAt W g 30 5 = true) : stOut Try.prog 30 W (.pointer (some ⟨g, 0, none⟩)) (.agg #[.int .i64 x0, .int .i64 x1, .int .i64 x2, .int .i64 x3, .int .i64 x4]) = .ok .skip (W.setRow g #[.int .i64 x0, .int .i64 x1, .int .i64 x2, .int .i64 x3, .int .i64 x4]) := stOut_any (by kernel_rfl) W g _ rfl (by simp [Value.oneCell']) h
theorem load_head (W : World) (g : Nat) (h : rowAt W g 30 5 = true) : ldOut Try.prog 30 W (.pointer (some ⟨g, 0, none⟩)) = .ok (.value (.agg (cellsAt W g))) W := ldOut_any Try.underlying30 rfl (by kernel_rfl) W g h
attribute [local go_sem ↓] exec_store_head exec_load_head
attribute [local go_sem] store_head load_head
set_option maxHeartbeats 4000000 in
set_option maxRecDepth 100000 in
theorem head_r (w0 : World) (rb cb : Nat) (q : RS) (v0 v1 v2 v3 v4 : Int) (q' : RS) (W : World) (h : Rd w0 rb cb q W) (hf : headS q = some ((v0, v1, v2, v3, v4), q')) :
  Calls Try.prog 68 #[.pointer (some ⟨rb, 0, none⟩)] W fun en W' => en = .returned (.agg #[.int .i64 v0, .int .i64 v1, .int .i64 v2, .int .i64 v3, .int .i64 v4]) ∧ Rd w0 rb cb q' W' ∧ KeptR rb cb W W' := by
 unfold headS at hf
 obtain ⟨⟨u0, q0⟩, e0, hf⟩ := Option.bind_eq_some_iff.1 hf
 obtain ⟨⟨u1, q1⟩, e1, hf⟩ := Option.bind_eq_some_iff.1 hf
 obtain ⟨⟨u2, q2⟩, e2, hf⟩ := Option.bind_eq_some_iff.1 hf
 obtain ⟨⟨u3, q3⟩, e3, hf⟩ := Option.bind_eq_some_iff.1 hf
 obtain ⟨⟨u4, q4⟩, e4, hf⟩ := Option.bind_eq_some_iff.1 hf
 obtain ⟨⟨rfl, rfl, rfl, rfl, rfl⟩, rfl⟩ : (u0 = v0 ∧ u1 = v1 ∧ u2 = v2 ∧ u3 = v3 ∧ u4 = v4) ∧ q4 = q' := by simpa using hf
 have E0 := Lib.hid e0
 have E1 := Lib.hid e1
 have E2 := Lib.hid e2
 have E3 := Lib.hid e3
 have E4 := Lib.hid e4
 have y0 := h.c0
 have HR := Lib.hid h
 clear h hf e0 e1 e2 e3 e4
 obtain ⟨Wa, hWa⟩ : ∃ X, (W.alloc (.cells #[.int .i64 0, .int .i64 0, .int .i64 0, .int .i64 0, .int .i64 0] 30)).alloc (.cells #[.int .i64 0, .int .i64 0, .int .i64 0, .int .i64 0, .int .i64 0] 30) = X := ⟨_, rfl⟩
 have HXa := Lib.hid (show Wa.heap[W.heap.size + 1]? = some (.cells #[.int .i64 0, .int .i64 0, .int .i64 0, .int .i64 0, .int .i64 0] 30 (0, 0)) from by rw [← hWa]; have h0 := heap_alloc_new (W.alloc (.cells #[.int .i64 0, .int .i64 0, .int .i64 0, .int .i64 0, .int .i64 0] 30)) (.cells #[.int .i64 0, .int .i64 0, .int .i64 0, .int .i64 0, .int .i64 0] 30); rw [World.size_alloc] at h0; exact h0)
 have HYa := Lib.hid (show Wa.heap[W.heap.size]? = some (.cells #[.int .i64 0, .int .i64 0, .int .i64 0, .int .i64 0, .int .i64 0] 30 (0, 0)) from by rw [← hWa]; exact blk_below (heap_alloc_new W (.cells #[.int .i64 0, .int .i64 0, .int .i64 0, .int .i64 0, .int .i64 0] 30)) (below_alloc (Below.refl _ _) _))
 have HBa := Lib.hid (show Below W.heap.size W Wa from by rw [← hWa]; exact below_alloc (below_alloc (Below.refl _ _) _) _)
 have HKa := Lib.hid (KeptR.below (rb := rb) (cb := cb) HBa.out)
 have HRa := Lib.hid (HR.out.below HBa.out)
 have y1 := HRa.out.c0
 have ncb : W.heap.size + 1 ≠ cb := by have := HR.out.clt; omega
 have nrb : W.heap.size + 1 ≠ rb := by have := HR.out.rlt; omega
 have ncb0 : W.heap.size ≠ cb := by have := HR.out.clt; omega
 have nrb0 : W.heap.size ≠ rb := by have := HR.out.rlt; omega
 have HG0 := Lib.hid HR.out.low.size
 have HG := Lib.hid (show w0.heap.size ≤ W.heap.size + 1 from by have := HR.out.low.size; omega)
 go_enter Try.func68, Try.ntmps68
 go_wp2_with fail
 try rw [hWa]
 refine wp_loop_rounds 5 ?_
 rw [rounds_succ]
 clear y0 hWa
 have hix : ∀ w_ : World, (Instr.index 121 (.agg #[.pointer (some ⟨W.heap.size + 1, 0, none⟩), .pointer (some ⟨W.heap.size + 1, 1, none⟩), .pointer (some ⟨W.heap.size + 1, 2, none⟩), .pointer (some ⟨W.heap.size + 1, 3, none⟩)]) (.int .i64 0)).run Try.prog w_ = .ok (.pointer (some ⟨W.heap.size + 1, 0, none⟩)) w_ := fun _ => by kernel_rfl
 go_wp2_with fail
 clear hix
 refine (int_r w0 rb cb q 2 u0 q0 Wa HRa.out E0.out).mono ?_
 rintro en W0 ⟨rfl, h1, hk⟩
 have HR0 := Lib.hid h1
 have HX0 := Lib.hid (hk.blk HXa.out nrb ncb)
 have HY0 := Lib.hid (hk.blk HYa.out nrb0 ncb0)
 have HK0 := Lib.hid (HKa.out.trans hk)
 have fz0 := blk_frozen HX0.out 0
 have fc0 : W0.cell? ⟨W.heap.size + 1, 0, none⟩ = some (.int .i64 0) := (blk_cell HX0.out 0).trans rfl
 clear h1 hk y1
 obtain ⟨V0, hV0⟩ : ∃ X, W0.setCell ⟨W.heap.size + 1, 0, none⟩ (.int .i64 u0) = X := ⟨_, rfl⟩
 have HXv0 := Lib.hid (show V0.heap[W.heap.size + 1]? = some (.cells #[.int .i64 u0, .int .i64 0, .int .i64 0, .int .i64 0, .int .i64 0] 30 (0, 0)) from by rw [← hV0]; exact blk_put HX0.out 0 _ rfl)
 have HYv0 := Lib.hid (show V0.heap[W.heap.size]? = some (.cells #[.int .i64 0, .int .i64 0, .int .i64 0, .int .i64 0, .int .i64 0] 30 (0, 0)) from by rw [← hV0]; exact blk_far HY0.out (p := ⟨W.heap.size + 1, 0, none⟩) (by show W.heap.size ≠ W.heap.size + 1; omega) _)
 have HRv0 := Lib.hid (show Rd w0 rb cb q0 V0 from by rw [← hV0]; exact HR0.out.far (p := ⟨W.heap.size + 1, 0, none⟩) nrb ncb HG.out _)
 have HKv0 := Lib.hid (show KeptR rb cb W V0 from by rw [← hV0]; exact Kept.setCell (p := ⟨W.heap.size + 1, 0, none⟩) HK0.out (.inr (Nat.le_succ _)) _)
 go_wp2_with fail
 try rw [hV0]
 rw [rounds_succ]
 have x0 := HRv0.out.c0
 clear hV0 fz0 fc0
 have hix : ∀ w_ : World, (Instr.index 121 (.agg #[.pointer (some ⟨W.heap.size + 1, 0, none⟩), .pointer (some ⟨W.heap.size + 1, 1, none⟩), .pointer (some ⟨W.heap.size + 1, 2, none⟩), .pointer (some ⟨W.heap.size + 1, 3, none⟩)]) (.int .i64 1)).run Try.prog w_ = .ok (.pointer (some ⟨W.heap.size + 1, 1, none⟩)) w_ := fun _ => by kernel_rfl
 go_wp2_with fail
 clear hix
 refine (int_r w0 rb cb q0 2 u1 q1 V0 HRv0.out E1.out).mono ?_
 rintro en W1 ⟨rfl, h1, hk⟩
 have HR1 := Lib.hid h1
 have HX1 := Lib.hid (hk.blk HXv0.out nrb ncb)
 have HY1 := Lib.hid (hk.blk HYv0.out nrb0 ncb0)
 have HK1 := Lib.hid (HKv0.out.trans hk)
 have fz1 := blk_frozen HX1.out 1
 have fc1 : W1.cell? ⟨W.heap.size + 1, 1, none⟩ = some (.int .i64 0) := (blk_cell HX1.out 1).trans rfl
 clear h1 hk x0
 obtain ⟨V1, hV1⟩ : ∃ X, W1.setCell ⟨W.heap.size + 1, 1, none⟩ (.int .i64 u1) = X := ⟨_, rfl⟩
 have HXv1 := Lib.hid (show V1.heap[W.heap.size + 1]? = some (.cells #[.int .i64 u0, .int .i64 u1, .int .i64 0, .int .i64 0, .int .i64 0] 30 (0, 0)) from by rw [← hV1]; exact blk_put HX1.out 1 _ rfl)
 have HYv1 := Lib.hid (show V1.heap[W.heap.size]? = some (.cells #[.int .i64 0, .int .i64 0, .int .i64 0, .int .i64 0, .int .i64 0] 30 (0, 0)) from by rw [← hV1]; exact blk_far HY1.out (p := ⟨W.heap.size + 1, 1, none⟩) (by show W.heap.size ≠ W.heap.size + 1; omega) _)
 have HRv1 := Lib.hid (show Rd w0 rb cb q1 V1 from by rw [← hV1]; exact HR1.out.far (p := ⟨W.heap.size + 1, 1, none⟩) nrb ncb HG.out _)
 have HKv1 := Lib.hid (show KeptR rb cb W V1 from by rw [← hV1]; exact Kept.setCell (p := ⟨W.heap.size + 1, 1, none⟩) HK1.out (.inr (Nat.le_succ _)) _)
 go_wp2_with fail
 try rw [hV1]
 rw [rounds_succ]
 have x1 := HRv1.out.c0
 clear hV1 fz1 fc1
 have hix : ∀ w_ : World, (Instr.index 121 (.agg #[.pointer (some ⟨W.heap.size + 1, 0, none⟩), .pointer (some ⟨W.heap.size + 1, 1, none⟩), .pointer (some ⟨W.heap.size + 1, 2, none⟩), .pointer (some ⟨W.heap.size + 1, 3, none⟩)]) (.int .i64 2)).run Try.prog w_ = .ok (.pointer (some ⟨W.heap.size + 1, 2, none⟩)) w_ := fun _ => by kernel_rfl
 go_wp2_with fail
 clear hix
 refine (int_r w0 rb cb q1 2 u2 q2 V1 HRv1.out E2.out).mono ?_
 rintro en W2 ⟨rfl, h1, hk⟩
 have HR2 := Lib.hid h1
 have HX2 := Lib.hid (hk.blk HXv1.out nrb ncb)
 have HY2 := Lib.hid (hk.blk HYv1.out nrb0 ncb0)
 have HK2 := Lib.hid (HKv1.out.trans hk)
 have fz2 := blk_frozen HX2.out 2
 have fc2 : W2.cell? ⟨W.heap.size + 1, 2, none⟩ = some (.int .i64 0) := (blk_cell HX2.out 2).trans rfl
 clear h1 hk x1
 obtain ⟨V2, hV2⟩ : ∃ X, W2.setCell ⟨W.heap.size + 1, 2, none⟩ (.int .i64 u2) = X := ⟨_, rfl⟩
 have HXv2 := Lib.hid (show V2.heap[W.heap.size + 1]? = some (.cells #[.int .i64 u0, .int .i64 u1, .int .i64 u2, .int .i64 0, .int .i64 0] 30 (0, 0)) from by rw [← hV2]; exact blk_put HX2.out 2 _ rfl)
 have HYv2 := Lib.hid (show V2.heap[W.heap.size]? = some (.cells #[.int .i64 0, .int .i64 0, .int .i64 0, .int .i64 0, .int .i64 0] 30 (0, 0)) from by rw [← hV2]; exact blk_far HY2.out (p := ⟨W.heap.size + 1, 2, none⟩) (by show W.heap.size ≠ W.heap.size + 1; omega) _)
 have HRv2 := Lib.hid (show Rd w0 rb cb q2 V2 from by rw [← hV2]; exact HR2.out.far (p := ⟨W.heap.size + 1, 2, none⟩) nrb ncb HG.out _)
 have HKv2 := Lib.hid (show KeptR rb cb W V2 from by rw [← hV2]; exact Kept.setCell (p := ⟨W.heap.size + 1, 2, none⟩) HK2.out (.inr (Nat.le_succ _)) _)
 go_wp2_with fail
 try rw [hV2]
 rw [rounds_succ]
 have x2 := HRv2.out.c0
 clear hV2 fz2 fc2
 have hix : ∀ w_ : World, (Instr.index 121 (.agg #[.pointer (some ⟨W.heap.size + 1, 0, none⟩), .pointer (some ⟨W.heap.size + 1, 1, none⟩), .pointer (some ⟨W.heap.size + 1, 2, none⟩), .pointer (some ⟨W.heap.size + 1, 3, none⟩)]) (.int .i64 3)).run Try.prog w_ = .ok (.pointer (some ⟨W.heap.size + 1, 3, none⟩)) w_ := fun _ => by kernel_rfl
 go_wp2_with fail
 clear hix
 refine (int_r w0 rb cb q2 2 u3 q3 V2 HRv2.out E3.out).mono ?_
 rintro en W3 ⟨rfl, h1, hk⟩
 have HR3 := Lib.hid h1
 have HX3 := Lib.hid (hk.blk HXv2.out nrb ncb)
 have HY3 := Lib.hid (hk.blk HYv2.out nrb0 ncb0)
 have HK3 := Lib.hid (HKv2.out.trans hk)
 have fz3 := blk_frozen HX3.out 3
 have fc3 : W3.cell? ⟨W.heap.size + 1, 3, none⟩ = some (.int .i64 0) := (blk_cell HX3.out 3).trans rfl
 clear h1 hk x2
 obtain ⟨V3, hV3⟩ : ∃ X, W3.setCell ⟨W.heap.size + 1, 3, none⟩ (.int .i64 u3) = X := ⟨_, rfl⟩
 have HXv3 := Lib.hid (show V3.heap[W.heap.size + 1]? = some (.cells #[.int .i64 u0, .int .i64 u1, .int .i64 u2, .int .i64 u3, .int .i64 0] 30 (0, 0)) from by rw [← hV3]; exact blk_put HX3.out 3 _ rfl)
 have HYv3 := Lib.hid (show V3.heap[W.heap.size]? = some (.cells #[.int .i64 0, .int .i64 0, .int .i64 0, .int .i64 0, .int .i64 0] 30 (0, 0)) from by rw [← hV3]; exact blk_far HY3.out (p := ⟨W.heap.size + 1, 3, none⟩) (by show W.heap.size ≠ W.heap.size + 1; omega) _)
 have HRv3 := Lib.hid (show Rd w0 rb cb q3 V3 from by rw [← hV3]; exact HR3.out.far (p := ⟨W.heap.size + 1, 3, none⟩) nrb ncb HG.out _)
 have HKv3 := Lib.hid (show KeptR rb cb W V3 from by rw [← hV3]; exact Kept.setCell (p := ⟨W.heap.size + 1, 3, none⟩) HK3.out (.inr (Nat.le_succ _)) _)
 go_wp2_with fail
 try rw [hV3]
 rw [rounds_succ]
 have x3 := HRv3.out.c0
 clear hV3 fz3 fc3
 go_wp2_with fail
 refine (signed_r w0 rb cb q3 u4 q4 V3 HRv3.out E4.out).mono ?_
 rintro en W4 ⟨rfl, h1, hk⟩
 have HR4 := Lib.hid h1
 have HX4 := Lib.hid (hk.blk HXv3.out nrb ncb)
 have HY4 := Lib.hid (hk.blk HYv3.out nrb0 ncb0)
 have HK4 := Lib.hid (HKv3.out.trans hk)
 have fz4 := blk_frozen HX4.out 4
 have fc4 : W4.cell? ⟨W.heap.size + 1, 4, none⟩ = some (.int .i64 0) := (blk_cell HX4.out 4).trans rfl
 clear h1 hk x3
 obtain ⟨V4, hV4⟩ : ∃ X, W4.setCell ⟨W.heap.size + 1, 4, none⟩ (.int .i64 u4) = X := ⟨_, rfl⟩
 have HXv4 := Lib.hid (show V4.heap[W.heap.size + 1]? = some (.cells #[.int .i64 u0, .int .i64 u1, .int .i64 u2, .int .i64 u3, .int .i64 u4] 30 (0, 0)) from by rw [← hV4]; exact blk_put HX4.out 4 _ rfl)
 have HYv4 := Lib.hid (show V4.heap[W.heap.size]? = some (.cells #[.int .i64 0, .int .i64 0, .int .i64 0, .int .i64 0, .int .i64 0] 30 (0, 0)) from by rw [← hV4]; exact blk_far HY4.out (p := ⟨W.heap.size + 1, 4, none⟩) (by show W.heap.size ≠ W.heap.size + 1; omega) _)
 have HRv4 := Lib.hid (show Rd w0 rb cb q4 V4 from by rw [← hV4]; exact HR4.out.far (p := ⟨W.heap.size + 1, 4, none⟩) nrb ncb HG.out _)
 have HKv4 := Lib.hid (show KeptR rb cb W V4 from by rw [← hV4]; exact Kept.setCell (p := ⟨W.heap.size + 1, 4, none⟩) HK4.out (.inr (Nat.le_succ _)) _)
 have hu30 := Try.underlying30
 have hu28 := Try.underlying28
 have hrx : rowAt V4 (W.heap.size + 1) 30 5 = true := rowAt_of HXv4.out rfl
 have hcx : cellsAt V4 (W.heap.size + 1) = #[.int .i64 u0, .int .i64 u1, .int .i64 u2, .int .i64 u3, .int .i64 u4] := cellsAt_of HXv4.out
 have hst : rowAt V4 W.heap.size 30 5 = true := rowAt_of HYv4.out rfl
 have HE := Lib.hid (setRow_heap V4 W.heap.size _ #[.int .i64 u0, .int .i64 u1, .int .i64 u2, .int .i64 u3, .int .i64 u4] _ _ HYv4.out)
 have HRz := Lib.hid (Rd.row HRv4.out nrb0 ncb0 HG0.out #[.int .i64 u0, .int .i64 u1, .int .i64 u2, .int .i64 u3, .int .i64 u4])
 have HKz := Lib.hid (show KeptR rb cb W _ from KeptR.row HKv4.out (Nat.le_refl _) #[.int .i64 u0, .int .i64 u1, .int .i64 u2, .int .i64 u3, .int .i64 u4])
 go_wp2_with fail
 refine bodyPost_ret (results_cell_row rfl _ _ W.heap.size 30 #[.int .i64 u0, .int .i64 u1, .int .i64 u2, .int .i64 u3, .int .i64 u4] (0, 0) _ rfl (by with_reducible exact HE.out) Try.underlying30 rfl (by kernel_rfl)) rfl ?_
 exact ⟨rfl, by with_reducible exact HRz.out, by with_reducible exact HKz.out⟩
set_option maxHeartbeats 4000000 in
set_option maxRecDepth 100000 in
theorem servermsg_HeadOf_read (s : ByteArray) (u0 : Int) (u1 : Int) (u2 : Int) (u3 : Int) (u4 : Int) (q : RS) (v0 : Int) (v1 : Int) (v2 : Int) (v3 : Int) (v4 : Int) (n1 n2 : Int) (w : World) (hf : headS ⟨s, 0, 0, 0⟩ = some ((u0, u1, u2, u3, u4), q)) (hv : (if q.re = 0 ∧ q.ce = 0 then some ((u0, u1, u2, u3, u4), q.at_, (0 : Int)) else some (((0 : Int), (0 : Int), (0 : Int), (0 : Int), (0 : Int)), 0, if q.re = 0 then q.ce else q.re)) = some ((v0, v1, v2, v3, v4), n1, n2)) :
  Calls Try.prog 67 #[.string s, .func (.func 68) #[] #[]] w fun e w' => e = .returned (.tuple #[.agg #[.int .i64 v0, .int .i64 v1, .int .i64 v2, .int .i64 v3, .int .i64 v4], .int .i64 n1, .int .i64 n2]) ∧ Below w.heap.size w w' := by
 have HF := Lib.hid hf
 have HV := Lib.hid hv
 clear hf hv
 obtain ⟨Wa, hWa⟩ : ∃ X, w.alloc (.cells #[.int .i64 0, .int .i64 0, .int .i64 0, .int .i64 0, .int .i64 0] 30) = X := ⟨_, rfl⟩
 have HYa := Lib.hid (show Wa.heap[w.heap.size]? = some (.cells #[.int .i64 0, .int .i64 0, .int .i64 0, .int .i64 0, .int .i64 0] 30 (0, 0)) from by rw [← hWa]; exact heap_alloc_new w (.cells #[.int .i64 0, .int .i64 0, .int .i64 0, .int .i64 0, .int .i64 0] 30))
 have HBa := Lib.hid (show Below w.heap.size w Wa from by rw [← hWa]; exact below_alloc (Below.refl _ _) _)
 have HLa := Lib.hid (show w.heap.size < Wa.heap.size from by rw [← hWa]; simp)
 go_enter Try.func67, Try.ntmps67
 go_wp2_with fail
 try rw [hWa]
 clear hWa
 refine (octets_New.calls s s 0 0 w Wa HBa.out rfl).mono ?_
 rintro en w1 ⟨g, rfl, hi, hb, hb2⟩
 have HY1 := Lib.hid (blk_below HYa.out hb2)
 have hg1 : w.heap.size ≠ g := fun e => by have h1 := HY1.out; rw [e, hi.1] at h1; simp at h1
 have hrb : w.heap.size < w1.heap.size := blk_lt HY1.out
 obtain ⟨W1, hW1⟩ : ∃ X, w1.alloc (.cells #[.pointer (some ⟨g, 0, none⟩), .int .i64 0] 101) = X := ⟨_, rfl⟩
 have HR := Lib.hid (show Rd w w1.heap.size g ⟨s, 0, 0, 0⟩ W1 from by rw [← hW1]; exact rd_new hi hb)
 have HY2 := Lib.hid (show W1.heap[w.heap.size]? = some (.cells #[.int .i64 0, .int .i64 0, .int .i64 0, .int .i64 0, .int .i64 0] 30 (0, 0)) from by rw [← hW1]; exact blk_below HY1.out (below_alloc (Below.refl _ _) _))
 clear hi hb hb2
 go_wp2_with fail
 try rw [hW1]
 clear hW1
 obtain ⟨rb, hrbe⟩ : ∃ x, w1.heap.size = x := ⟨_, rfl⟩
 rw [hrbe] at HR hrb ⊢
 clear hrbe
 refine (head_r w rb g ⟨s, 0, 0, 0⟩ u0 u1 u2 u3 u4 q W1 HR.out HF.out).mono ?_
 rintro en W2 ⟨rfl, h1, hk⟩
 have y0 := h1.c0
 have y1 := h1.c1
 have HR2 := Lib.hid h1
 have HY3 := Lib.hid (hk.blk HY2.out (by omega) hg1)
 have hv := HV.out
 clear h1 hk
 have huHead := Try.underlying30
 have huRect := Try.underlying28
 have hl1 := HR2.out.rlt
 have hl2 := HR2.out.clt
 have hl3 := blk_lt HY3.out
 have hne1 : rb ≠ W2.heap.size := by omega
 have hne2 : w.heap.size ≠ W2.heap.size := by omega
 have HXw := Lib.hid (heap_alloc_new W2 (.cells #[.int .i64 0, .int .i64 0, .int .i64 0, .int .i64 0, .int .i64 0] 30))
 have hsta : rowAt (W2.alloc (.cells #[.int .i64 0, .int .i64 0, .int .i64 0, .int .i64 0, .int .i64 0] 30)) (W2.heap.size) 30 5 = true := rowAt_of HXw.out rfl
 obtain ⟨Wb, hWb⟩ : ∃ X, (W2.alloc (.cells #[.int .i64 0, .int .i64 0, .int .i64 0, .int .i64 0, .int .i64 0] 30)).setRow W2.heap.size #[.int .i64 u0, .int .i64 u1, .int .i64 u2, .int .i64 u3, .int .i64 u4] = X := ⟨_, rfl⟩
 have HRb := Lib.hid (show Rd w rb g q Wb from by rw [← hWb]; exact Rd.row (HR2.out.below (below_alloc (Below.refl _ _) _)) (by omega) (by have := HR2.out.clt; omega) (by have := HR2.out.low.size; omega) _)
 have HXb := Lib.hid (show Wb.heap[W2.heap.size]? = some (.cells #[.int .i64 u0, .int .i64 u1, .int .i64 u2, .int .i64 u3, .int .i64 u4] 30 (0, 0)) from by rw [← hWb]; exact setRow_heap _ _ _ _ _ _ HXw.out)
 have HYb := Lib.hid (show Wb.heap[w.heap.size]? = some (.cells #[.int .i64 0, .int .i64 0, .int .i64 0, .int .i64 0, .int .i64 0] 30 (0, 0)) from by rw [← hWb]; exact (setRow_other _ _ _ _ hne2).trans (blk_below HY3.out (below_alloc (Below.refl _ _) _)))
 clear y0 y1
 have y0 := HRb.out.c0
 have y1 := HRb.out.c1
 have HG0 := Lib.hid (Nat.le_refl w.heap.size)
 have nrb0 : w.heap.size ≠ rb := by omega
 have ncb0 : w.heap.size ≠ g := hg1
 by_cases hr : q.re = 0
 ·have hrb1 : (q.re == 0) = true := by simpa using hr
  by_cases hc : q.ce = 0
  ·rw [if_pos ⟨hr, hc⟩] at hv
   obtain ⟨⟨rfl, rfl, rfl, rfl, rfl⟩, rfl, rfl⟩ : (u0 = v0 ∧ u1 = v1 ∧ u2 = v2 ∧ u3 = v3 ∧ u4 = v4) ∧ q.at_ = n1 ∧ (0 : Int) = n2 := by simpa using hv
   have hcb : (q.ce != 0) = false := by simpa using hc
   clear hr hc hv HV
   go_wp2_with fail
   try rw [hWb]
   clear hWb
   refine (err_q w rb g q Wb HRb.out).mono ?_
   rintro en W3 ⟨rfl, hw⟩
   rw [hw]
   clear hw
   have hld : rowAt Wb W2.heap.size 30 5 = true := rowAt_of HXb.out rfl
   have hldc : cellsAt Wb W2.heap.size = #[.int .i64 u0, .int .i64 u1, .int .i64 u2, .int .i64 u3, .int .i64 u4] := cellsAt_of HXb.out
   have hld2 : rowAt Wb.drew W2.heap.size 30 5 = true := rowAt_of (blk_drew HXb.out) rfl
   have hld2c : cellsAt Wb.drew W2.heap.size = #[.int .i64 u0, .int .i64 u1, .int .i64 u2, .int .i64 u3, .int .i64 u4] := cellsAt_of (blk_drew HXb.out)
   clear hsta
   have hst : rowAt Wb (w.heap.size) 30 5 = true := rowAt_of HYb.out rfl
   have hst2 : rowAt Wb.drew (w.heap.size) 30 5 = true := rowAt_of (blk_drew HYb.out) rfl
   go_wp2_with fail
   have HC := Lib.hid (setRow_heap Wb w.heap.size _ #[.int .i64 u0, .int .i64 u1, .int .i64 u2, .int .i64 u3, .int .i64 u4] _ _ HYb.out)
   have HC2 := Lib.hid (setRow_heap Wb.drew w.heap.size _ #[.int .i64 u0, .int .i64 u1, .int .i64 u2, .int .i64 u3, .int .i64 u4] _ _ (blk_drew HYb.out))
   have HRz := Lib.hid (Rd.row HRb.out nrb0 ncb0 HG0.out #[.int .i64 u0, .int .i64 u1, .int .i64 u2, .int .i64 u3, .int .i64 u4])
   have HRz2 := Lib.hid (Rd.row HRb.out.drew nrb0 ncb0 HG0.out #[.int .i64 u0, .int .i64 u1, .int .i64 u2, .int .i64 u3, .int .i64 u4])
   clear hld hld2 hldc hld2c hst hst2 y1
   have hd1 : rowAt Wb.drew W2.heap.size 30 5 = true := rowAt_of (blk_drew HXb.out) rfl
   have hd2 : cellsAt Wb.drew W2.heap.size = #[.int .i64 u0, .int .i64 u1, .int .i64 u2, .int .i64 u3, .int .i64 u4] := cellsAt_of (blk_drew HXb.out)
   have hd3 : Wb.drew.cell? ⟨rb, 0, none⟩ = some (.pointer (some ⟨g, 0, none⟩)) := HRb.out.drew.c0
   go_still_tail 6, (by kernel_rfl)
   still_call (at_q w rb g q _ HRb.out.drew)
   try refine wpStill_nil ?_
   change wpList _ _ _ _ _ Wb.drew
   clear hd1 hd2 hd3
   have hst : rowAt Wb.drew w.heap.size 30 5 = true := rowAt_of (blk_drew HYb.out) rfl
   go_wp2_with fail
   all_goals (refine bodyPost_ret (results_ctt rfl _ _ w.heap.size 30 #[.int .i64 u0, .int .i64 u1, .int .i64 u2, .int .i64 u3, .int .i64 u4] (0, 0) _ rfl (by first | with_reducible exact HC.out | with_reducible exact blk_drew HC.out | with_reducible exact HC2.out | with_reducible exact blk_drew HC2.out) Try.underlying30 rfl (by kernel_rfl)) rfl ?_; exact ⟨rfl, by first | with_reducible exact HRz.out.low | with_reducible exact Below.drew HRz.out.low | with_reducible exact HRz2.out.low | with_reducible exact Below.drew HRz2.out.low⟩)
  ·rw [if_neg (fun h => hc h.2), if_pos hr] at hv
   obtain ⟨⟨rfl, rfl, rfl, rfl, rfl⟩, rfl, rfl⟩ : ((0 : Int) = v0 ∧ (0 : Int) = v1 ∧ (0 : Int) = v2 ∧ (0 : Int) = v3 ∧ (0 : Int) = v4) ∧ (0 : Int) = n1 ∧ q.ce = n2 := by simpa using hv
   have hcb : (q.ce != 0) = true := by simpa using hc
   clear hr hc hv HV
   go_wp2_with fail
   try rw [hWb]
   clear hWb
   refine (err_q w rb g q Wb HRb.out).mono ?_
   rintro en W3 ⟨rfl, hw⟩
   rw [hw]
   clear hw
   obtain ⟨Wc, hWc⟩ : ∃ X, Wb.alloc (.cells #[.int .i64 0, .int .i64 0, .int .i64 0, .int .i64 0, .int .i64 0] 30) = X := ⟨_, rfl⟩
   have HYc := Lib.hid (show Wc.heap[w.heap.size]? = some (.cells #[.int .i64 0, .int .i64 0, .int .i64 0, .int .i64 0, .int .i64 0] 30 (0, 0)) from by rw [← hWc]; exact blk_below HYb.out (below_alloc (Below.refl _ _) _))
   have HXc := Lib.hid (show Wc.heap[Wb.heap.size]? = some (.cells #[.int .i64 0, .int .i64 0, .int .i64 0, .int .i64 0, .int .i64 0] 30 (0, 0)) from by rw [← hWc]; exact heap_alloc_new Wb _)
   have hld : rowAt Wc Wb.heap.size 30 5 = true := rowAt_of HXc.out rfl
   have hldc : cellsAt Wc Wb.heap.size = #[.int .i64 0, .int .i64 0, .int .i64 0, .int .i64 0, .int .i64 0] := cellsAt_of HXc.out
   have HRc := Lib.hid (show Rd w rb g q Wc from by rw [← hWc]; exact HRb.out.below (below_alloc (Below.refl _ _) _))
   have HC := Lib.hid (setRow_heap Wc w.heap.size _ #[.int .i64 0, .int .i64 0, .int .i64 0, .int .i64 0, .int .i64 0] _ _ HYc.out)
   have HRz := Lib.hid (Rd.row HRc.out nrb0 ncb0 HG0.out #[.int .i64 0, .int .i64 0, .int .i64 0, .int .i64 0, .int .i64 0])
   have hst : rowAt Wc (w.heap.size) 30 5 = true := rowAt_of HYc.out rfl
   go_wp2_with fail
   refine bodyPost_ret (results_ctt rfl _ _ w.heap.size 30 #[.int .i64 0, .int .i64 0, .int .i64 0, .int .i64 0, .int .i64 0] (0, 0) _ rfl (by first | with_reducible exact HC.out | with_reducible exact blk_drew HC.out) Try.underlying30 rfl (by kernel_rfl)) rfl ?_
   exact ⟨rfl, by first | with_reducible exact HRz.out.low | with_reducible exact Below.drew HRz.out.low⟩
 ·rw [if_neg (fun h => hr h.1), if_neg hr] at hv
  obtain ⟨⟨rfl, rfl, rfl, rfl, rfl⟩, rfl, rfl⟩ : ((0 : Int) = v0 ∧ (0 : Int) = v1 ∧ (0 : Int) = v2 ∧ (0 : Int) = v3 ∧ (0 : Int) = v4) ∧ (0 : Int) = n1 ∧ q.re = n2 := by simpa using hv
  have hrb1 : (q.re == 0) = false := by simpa using hr
  have hrb2 : (q.re != 0) = true := by simpa using hr
  clear hr hv HV
  obtain ⟨Wc, hWc⟩ : ∃ X, Wb.alloc (.cells #[.int .i64 0, .int .i64 0, .int .i64 0, .int .i64 0, .int .i64 0] 30) = X := ⟨_, rfl⟩
  have HYc := Lib.hid (show Wc.heap[w.heap.size]? = some (.cells #[.int .i64 0, .int .i64 0, .int .i64 0, .int .i64 0, .int .i64 0] 30 (0, 0)) from by rw [← hWc]; exact blk_below HYb.out (below_alloc (Below.refl _ _) _))
  have HXc := Lib.hid (show Wc.heap[Wb.heap.size]? = some (.cells #[.int .i64 0, .int .i64 0, .int .i64 0, .int .i64 0, .int .i64 0] 30 (0, 0)) from by rw [← hWc]; exact heap_alloc_new Wb _)
  have hld : rowAt Wc Wb.heap.size 30 5 = true := rowAt_of HXc.out rfl
  have hldc : cellsAt Wc Wb.heap.size = #[.int .i64 0, .int .i64 0, .int .i64 0, .int .i64 0, .int .i64 0] := cellsAt_of HXc.out
  have HRc := Lib.hid (show Rd w rb g q Wc from by rw [← hWc]; exact HRb.out.below (below_alloc (Below.refl _ _) _))
  have HC := Lib.hid (setRow_heap Wc w.heap.size _ #[.int .i64 0, .int .i64 0, .int .i64 0, .int .i64 0, .int .i64 0] _ _ HYc.out)
  have HRz := Lib.hid (Rd.row HRc.out nrb0 ncb0 HG0.out #[.int .i64 0, .int .i64 0, .int .i64 0, .int .i64 0, .int .i64 0])
  have hst : rowAt Wc (w.heap.size) 30 5 = true := rowAt_of HYc.out rfl
  go_wp2_with fail
  refine bodyPost_ret (results_ctt rfl _ _ w.heap.size 30 #[.int .i64 0, .int .i64 0, .int .i64 0, .int .i64 0, .int .i64 0] (0, 0) _ rfl (by first | with_reducible exact HC.out | with_reducible exact blk_drew HC.out) Try.underlying30 rfl (by kernel_rfl)) rfl ?_
  exact ⟨rfl, by first | with_reducible exact HRz.out.low | with_reducible exact Below.drew HRz.out.low⟩
def servermsg_HeadOf.f (a0 : ByteArray) : Option (Int × Int × Int × Int × Int × Int × Int) := (headS ⟨a0, 0, 0, 0⟩).bind fun p => if p.2.re = 0 ∧ p.2.ce = 0 then some (p.1.1, p.1.2.1, p.1.2.2.1, p.1.2.2.2.1, p.1.2.2.2.2, p.2.at_, 0) else some (0, 0, 0, 0, 0, 0, if p.2.re = 0 then p.2.ce else p.2.re)
set_option maxHeartbeats 1000000 in
set_option maxRecDepth 100000 in
theorem servermsg_HeadOf.calls (a0 : ByteArray) (r1 : Int) (r2 : Int) (r3 : Int) (r4 : Int) (r5 : Int) (r6 r7 : Int) (w : World) (h : servermsg_HeadOf.f a0 = some (r1, r2, r3, r4, r5, r6, r7)) :
  Calls Try.prog 27 #[.string a0] w fun e w' => e = .returned (.tuple #[.agg #[.int .i64 r1, .int .i64 r2, .int .i64 r3, .int .i64 r4, .int .i64 r5], .int .i64 r6, .int .i64 r7]) ∧ Below w.heap.size w w' := by
 unfold servermsg_HeadOf.f at h
 obtain ⟨⟨⟨u0, u1, u2, u3, u4⟩, q⟩, e1, h⟩ := Option.bind_eq_some_iff.1 h
 have H := Lib.hid e1
 have HV : ∃ (v0 : Int) (v1 : Int) (v2 : Int) (v3 : Int) (v4 : Int) (n1 n2 : Int), (if q.re = 0 ∧ q.ce = 0 then some ((u0, u1, u2, u3, u4), q.at_, (0 : Int)) else some (((0 : Int), (0 : Int), (0 : Int), (0 : Int), (0 : Int)), 0, if q.re = 0 then q.ce else q.re)) = some ((v0, v1, v2, v3, v4), n1, n2) ∧ v0 = r1 ∧ v1 = r2 ∧ v2 = r3 ∧ v3 = r4 ∧ v4 = r5 ∧ n1 = r6 ∧ n2 = r7 := by
  have h : (if q.re = 0 ∧ q.ce = 0 then some (u0, u1, u2, u3, u4, q.at_, (0 : Int)) else some (0, 0, 0, 0, 0, 0, if q.re = 0 then q.ce else q.re)) = some (r1, r2, r3, r4, r5, r6, r7) := h
  by_cases hc : q.re = 0 ∧ q.ce = 0
  ·rw [if_pos hc] at h ⊢; exact ⟨u0, u1, u2, u3, u4, _, _, rfl, by simpa [and_assoc] using h⟩
  ·rw [if_neg hc] at h ⊢; exact ⟨0, 0, 0, 0, 0, _, _, rfl, by simpa [and_assoc] using h⟩
 obtain ⟨v0, v1, v2, v3, v4, n1, n2, hv, rfl, rfl, rfl, rfl, rfl, rfl, rfl⟩ := HV
 have HV := Lib.hid hv
 clear h e1 hv
 have HY0 := Lib.hid (heap_alloc_new w (.cells #[.int .i64 0, .int .i64 0, .int .i64 0, .int .i64 0, .int .i64 0] 30))
 obtain ⟨Wa, hWa⟩ : ∃ X, w.alloc (.cells #[.int .i64 0, .int .i64 0, .int .i64 0, .int .i64 0, .int .i64 0] 30) = X := ⟨_, rfl⟩
 have HYa := Lib.hid (show Wa.heap[w.heap.size]? = some (.cells #[.int .i64 0, .int .i64 0, .int .i64 0, .int .i64 0, .int .i64 0] 30 (0, 0)) from by rw [← hWa]; exact HY0.out)
 have HBa := Lib.hid (show Below w.heap.size w Wa from by rw [← hWa]; exact below_alloc (Below.refl _ _) _)
 clear HY0
 go_enter Try.func27, Try.ntmps27
 go_wp2_with fail
 try rw [hWa]
 clear hWa
 refine (servermsg_HeadOf_read a0 u0 u1 u2 u3 u4 q v0 v1 v2 v3 v4 n1 n2 Wa H.out HV.out).mono ?_
 rintro en W1 ⟨rfl, hb⟩
 have HY1 := Lib.hid (blk_below HYa.out hb)
 have HB1 := Lib.hid (HBa.out.trans (hb.mono HBa.out.size))
 clear hb
 have huHead := Try.underlying30
 have huRect := Try.underlying28
 have hst : rowAt W1 (w.heap.size) 30 5 = true := rowAt_of HY1.out rfl
 have HC := Lib.hid (setRow_heap W1 w.heap.size _ #[.int .i64 v0, .int .i64 v1, .int .i64 v2, .int .i64 v3, .int .i64 v4] _ _ HY1.out)
 have HBz := Lib.hid (below_row HB1.out (Nat.le_refl _) #[.int .i64 v0, .int .i64 v1, .int .i64 v2, .int .i64 v3, .int .i64 v4])
 go_wp2_with fail
 refine bodyPost_ret (results_ctt rfl _ _ w.heap.size 30 #[.int .i64 v0, .int .i64 v1, .int .i64 v2, .int .i64 v3, .int .i64 v4] (0, 0) _ rfl (by with_reducible exact HC.out) Try.underlying30 rfl (by kernel_rfl)) rfl ?_
 exact ⟨rfl, by with_reducible exact HBz.out⟩
end

end Go.Proofs.Ytpackckoblpbfaa.X
