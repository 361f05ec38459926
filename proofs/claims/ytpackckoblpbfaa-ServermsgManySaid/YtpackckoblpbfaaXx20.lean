/- What each Go function that these laws use answers: as a Lean function, with the proof that the machine's call comes to it. Written by a program of this session (xprint.py). -/
import Derived.Test.YtpackckoblpbfaaXx0
import Derived.Test.YtpackckoblpbfaaXx16
import Derived.Test.YtpackckoblpbfaaXx17
import Derived.Test.YtpackckoblpbfaaXx18
import Derived.Test.YtpackckoblpbfaaXx19
namespace Go.Proofs.Ytpackckoblpbfaa.X
open Go.RowKit Go.Proofs.YtpackckoblpbfaaW.PrintWords Go.Proofs.YtpackckoblpbfaaW.PrintLast Go.Proofs.YtpackckoblpbfaaW.PrintMore
attribute [local go_sem] max2_int min2_int max_two min_two max_three min_three max_four min_four   -- for this text's walks alone
set_option linter.unusedVariables false
set_option linter.unusedSimpArgs false

/-! ### servermsg_StartOf: function 25 -/
section
def startS (q : RS) : Option ((Int × Int × Int × Int × Bool × Bool × Int × Int × Int × Int × Int × Int × ByteArray) × RS) := (intS q 2).bind fun a => (intS a.2 2).bind fun b => (bytesS b.2 16).bind fun c => (format_Parse.f c.1).bind fun p => if (failS (failS c.2 (a.1 == 0 || b.1 == 0) 3) (p.2.2.2.2.2.2.2.2.2.2 != 0) p.2.2.2.2.2.2.2.2.2.2).re = 0 then (textS (failS (failS c.2 (a.1 == 0 || b.1 == 0) 3) (p.2.2.2.2.2.2.2.2.2.2 != 0) p.2.2.2.2.2.2.2.2.2.2)).bind fun t => some ((a.1, b.1, p.1, p.2.1, p.2.2.1, p.2.2.2.1, p.2.2.2.2.1, p.2.2.2.2.2.1, p.2.2.2.2.2.2.1, p.2.2.2.2.2.2.2.1, p.2.2.2.2.2.2.2.2.1, p.2.2.2.2.2.2.2.2.2.1, t.1), t.2) else some ((a.1, b.1, 0, 0, false, false, 0, 0, 0, 0, 0, 0, ⟨#[]⟩), failS (failS c.2 (a.1 == 0 || b.1 == 0) 3) (p.2.2.2.2.2.2.2.2.2.2 != 0) p.2.2.2.2.2.2.2.2.2.2)
theorem rowAt_start (W : World) : rowAt (W.alloc (.cells #[.int .i64 0, .int .i64 0, .int .i64 0, .int .i64 0, .bool false, .bool false, .int .i64 0, .int .i64 0, .int .i64 0, .int .i64 0, .int .i64 0, .int .i64 0, .string ⟨#[]⟩] 26)) W.heap.size 26 13 = true := rowAt_of (heap_alloc_new W _) rfl
attribute [local go_sem] rowAt_start
theorem start_cut {w0 W X : World} {rb cb k : Nat} {q : RS} {u0 u1 : Int} (hR : Rd w0 rb cb q X) (hK : KeptR rb cb W X) (hx : X.heap[k]? = some (.cells #[.int .i64 0, .int .i64 0, .int .i64 0, .int .i64 0, .bool false, .bool false, .int .i64 0, .int .i64 0, .int .i64 0, .int .i64 0, .int .i64 0, .int .i64 0, .string ⟨#[]⟩] 26 (0, 0))) (hlt : W.heap.size < k) (h1 : k ≠ rb) (h2 : k ≠ cb) (hy : X.heap[W.heap.size]? = some (.cells #[.int .i64 0, .int .i64 0, .int .i64 0, .int .i64 0, .bool false, .bool false, .int .i64 0, .int .i64 0, .int .i64 0, .int .i64 0, .int .i64 0, .int .i64 0, .string ⟨#[]⟩] 26 (0, 0))) (hg : w0.heap.size ≤ W.heap.size) :
  ∃ k', Value.pointer (some ⟨k, 0, none⟩) = .pointer (some ⟨k', 0, none⟩) ∧ Hid (W.heap.size < k' ∧ k' ≠ rb ∧ k' ≠ cb) ∧ Hid ((X.setRow k #[.int .i64 u0, .int .i64 u1, .int .i64 0, .int .i64 0, .bool false, .bool false, .int .i64 0, .int .i64 0, .int .i64 0, .int .i64 0, .int .i64 0, .int .i64 0, .string ⟨#[]⟩]).heap[k']? = some (.cells #[.int .i64 u0, .int .i64 u1, .int .i64 0, .int .i64 0, .bool false, .bool false, .int .i64 0, .int .i64 0, .int .i64 0, .int .i64 0, .int .i64 0, .int .i64 0, .string ⟨#[]⟩] 26 (0, 0))) ∧ Hid ((X.setRow k #[.int .i64 u0, .int .i64 u1, .int .i64 0, .int .i64 0, .bool false, .bool false, .int .i64 0, .int .i64 0, .int .i64 0, .int .i64 0, .int .i64 0, .int .i64 0, .string ⟨#[]⟩]).heap[W.heap.size]? = some (.cells #[.int .i64 0, .int .i64 0, .int .i64 0, .int .i64 0, .bool false, .bool false, .int .i64 0, .int .i64 0, .int .i64 0, .int .i64 0, .int .i64 0, .int .i64 0, .string ⟨#[]⟩] 26 (0, 0))) ∧ Hid (Rd w0 rb cb q (X.setRow k #[.int .i64 u0, .int .i64 u1, .int .i64 0, .int .i64 0, .bool false, .bool false, .int .i64 0, .int .i64 0, .int .i64 0, .int .i64 0, .int .i64 0, .int .i64 0, .string ⟨#[]⟩])) ∧ Hid (KeptR rb cb W (X.setRow k #[.int .i64 u0, .int .i64 u1, .int .i64 0, .int .i64 0, .bool false, .bool false, .int .i64 0, .int .i64 0, .int .i64 0, .int .i64 0, .int .i64 0, .int .i64 0, .string ⟨#[]⟩])) :=
 ⟨k, rfl, Lib.hid ⟨hlt, h1, h2⟩, Lib.hid (setRow_heap _ _ _ _ _ _ hx), Lib.hid ((setRow_other _ _ _ _ (by omega)).trans hy), Lib.hid (hR.row h1 h2 (by omega) _), Lib.hid (hK.row (by omega) _)⟩
theorem rowAt_fmt (W : World) : rowAt (W.alloc (.cells #[.int .i64 0, .int .i64 0, .bool false, .bool false, .int .i64 0, .int .i64 0, .int .i64 0, .int .i64 0, .int .i64 0, .int .i64 0] 24)) W.heap.size 24 10 = true := rowAt_of (heap_alloc_new W _) rfl
attribute [local go_sem] rowAt_fmt
theorem store_mid (W : World) (g : Nat) (f0 : Int) (f1 : Int) (f2 : Bool) (f3 : Bool) (f4 : Int) (f5 : Int) (f6 : Int) (f7 : Int) (f8 : Int) (f9 : Int) (h : rowAt W g 26 13 = true) : stOut Try.prog 24 W (.pointer (some ⟨g, 2, none⟩)) (.agg #[.int .i64 f0, .int .i64 f1, .bool f2, .bool f3, .int .i64 f4, .int .i64 f5, .int .i64 f6, .int .i64 f7, .int .i64 f8, .int .i64 f9]) = .ok .skip (W.setRow g ((cellsAt W g).toList.take 2 ++ ([.int .i64 f0, .int .i64 f1, .bool f2, .bool f3, .int .i64 f4, .int .i64 f5, .int .i64 f6, .int .i64 f7, .int .i64 f8, .int .i64 f9] : List Value) ++ (cellsAt W g).toList.drop 12).toArray) := by
 obtain ⟨cs, h2, h3⟩ := of_rowAt h
 rw [cellsAt_of h2]
 unfold stOut
 simp only [Instr.storeAt, Instr.sureAddr, Sem.run_bind, Sem.run_pure, Result.andThen_ok, storeVar_at (P := Try.prog) (ty := 24) (cs := #[.int .i64 f0, .int .i64 f1, .bool f2, .bool f3, .int .i64 f4, .int .i64 f5, .int .i64 f6, .int .i64 f7, .int .i64 f8, .int .i64 f9]) (by kernel_rfl) h2 (o := 2) (by rw [h3]; show 2 + 10 ≤ 13; omega) (by simp [Value.oneCell'])]
 rfl
theorem cell_row (W : World) (g j : Nat) (cs : Array Value) (h : rowAt W g 26 13 = true) : (W.setRow g cs).cell? ⟨g, j, none⟩ = cs[j]? := by
 obtain ⟨cs0, h2, h3⟩ := of_rowAt h
 exact cell_setRow_same W g j _ cs _ _ h2
theorem frozen_row (W : World) (g j : Nat) (cs : Array Value) (h : rowAt W g 26 13 = true) : (W.setRow g cs).frozen? ⟨g, j, none⟩ = false := by
 obtain ⟨cs0, h2, h3⟩ := of_rowAt h
 exact blk_frozen (setRow_heap W g _ cs _ _ h2) j
attribute [local go_sem] store_mid cell_row frozen_row
theorem start_cut2 {w0 W X : World} {rb cb k : Nat} {q : RS} {u0 u1 : Int} {f0 : Int} {f1 : Int} {f2 : Bool} {f3 : Bool} {f4 : Int} {f5 : Int} {f6 : Int} {f7 : Int} {f8 : Int} {f9 : Int} {t : ByteArray} (hR : Rd w0 rb cb q X) (hK : KeptR rb cb W X) (hx : X.heap[k]? = some (.cells #[.int .i64 u0, .int .i64 u1, .int .i64 0, .int .i64 0, .bool false, .bool false, .int .i64 0, .int .i64 0, .int .i64 0, .int .i64 0, .int .i64 0, .int .i64 0, .string ⟨#[]⟩] 26 (0, 0))) (hlt : W.heap.size < k) (h1 : k ≠ rb) (h2 : k ≠ cb) (hy : X.heap[W.heap.size]? = some (.cells #[.int .i64 0, .int .i64 0, .int .i64 0, .int .i64 0, .bool false, .bool false, .int .i64 0, .int .i64 0, .int .i64 0, .int .i64 0, .int .i64 0, .int .i64 0, .string ⟨#[]⟩] 26 (0, 0))) (hg : w0.heap.size ≤ W.heap.size) :
  Value.pointer (some ⟨k, 0, none⟩) = .pointer (some ⟨k, 0, none⟩) ∧ Hid (((X.setRow k #[.int .i64 u0, .int .i64 u1, .int .i64 f0, .int .i64 f1, .bool f2, .bool f3, .int .i64 f4, .int .i64 f5, .int .i64 f6, .int .i64 f7, .int .i64 f8, .int .i64 f9, .string ⟨#[]⟩]).setCell ⟨k, 12, none⟩ (.string t)).heap[k]? = some (.cells #[.int .i64 u0, .int .i64 u1, .int .i64 f0, .int .i64 f1, .bool f2, .bool f3, .int .i64 f4, .int .i64 f5, .int .i64 f6, .int .i64 f7, .int .i64 f8, .int .i64 f9, .string t] 26 (0, 0))) ∧ Hid (((X.setRow k #[.int .i64 u0, .int .i64 u1, .int .i64 f0, .int .i64 f1, .bool f2, .bool f3, .int .i64 f4, .int .i64 f5, .int .i64 f6, .int .i64 f7, .int .i64 f8, .int .i64 f9, .string ⟨#[]⟩]).setCell ⟨k, 12, none⟩ (.string t)).heap[W.heap.size]? = some (.cells #[.int .i64 0, .int .i64 0, .int .i64 0, .int .i64 0, .bool false, .bool false, .int .i64 0, .int .i64 0, .int .i64 0, .int .i64 0, .int .i64 0, .int .i64 0, .string ⟨#[]⟩] 26 (0, 0))) ∧ Hid (Rd w0 rb cb q ((X.setRow k #[.int .i64 u0, .int .i64 u1, .int .i64 f0, .int .i64 f1, .bool f2, .bool f3, .int .i64 f4, .int .i64 f5, .int .i64 f6, .int .i64 f7, .int .i64 f8, .int .i64 f9, .string ⟨#[]⟩]).setCell ⟨k, 12, none⟩ (.string t))) ∧ Hid (KeptR rb cb W ((X.setRow k #[.int .i64 u0, .int .i64 u1, .int .i64 f0, .int .i64 f1, .bool f2, .bool f3, .int .i64 f4, .int .i64 f5, .int .i64 f6, .int .i64 f7, .int .i64 f8, .int .i64 f9, .string ⟨#[]⟩]).setCell ⟨k, 12, none⟩ (.string t))) :=
 ⟨rfl, Lib.hid (blk_put (setRow_heap _ _ _ _ _ _ hx) 12 _ rfl), Lib.hid (blk_far ((setRow_other _ _ _ _ (by omega)).trans hy) (by show W.heap.size ≠ k; omega) _), Lib.hid ((hR.row h1 h2 (by omega) _).far (p := ⟨k, 12, none⟩) h1 h2 (by show w0.heap.size ≤ k; omega) _), Lib.hid (Kept.setCell (p := ⟨k, 12, none⟩) (hK.row (by omega) _) (.inr (by show W.heap.size ≤ k; omega)) _)⟩
theorem exec_store_start (ρ : Operand → Value) (d : Option Tmp) (x y : Operand) (ty : TypeId) (ps : String) (af : Array Edge) (gd : Option (Nat × Bool)) (P : Program) (W : World) : (execOp ρ ⟨d, .store 26 x y, ty, ps, af, gd⟩).run P W = stOut P 26 W (ρ x) (ρ y) := rfl
theorem exec_load_start (ρ : Operand → Value) (d : Option Tmp) (x : Operand) (ty : TypeId) (ps : String) (af : Array Edge) (gd : Option (Nat × Bool)) (P : Program) (W : World) : (execOp ρ ⟨d, .load 26 x, ty, ps, af, gd⟩).run P W = ldOut P 26 W (ρ x) := rfl
theorem store_start (W : World) (g : Nat) (x0 : Int) (x1 : Int) (x2 : Int) (x3 : Int) (x4 : Bool) (x5 : Bool) (x6 : Int) (x7 : Int) (x8 : Int) (x9 : Int) (x10 : Int) (x11 : Int) (x12 : ByteArray) (h : rowAt W g 26 13 = true) : stOut Try.prog 26 W (.pointer (some ⟨g, 0, none⟩)) (.agg #[.int .i64 x0, .int .i64 x1, .int .i64 x2, .int .i64 x3, .bool x4, .bool x5, .int .i64 x6, .int .i64 x7, .int .i64 x8, .int .i64 x9, .int .i64 x10, .int .i64 x11, .string x12]) = .ok .skip (W.setRow g #[.int .i64 x0, .int .i64 x1, .int .i64 x2, .int .i64 x3, .bool x4, .bool x5, .int .i64 x6, .int .i64 x7, .int .i64 x8, .int .i64 x9, .int .i64 x10, .int .i64 x11, .string x12]) := stOut_any (by kernel_rfl) W g _ rfl (by simp [Value.oneCell']) h
theorem load_start (W : World) (g : Nat) (h : rowAt W g 26 13 = true) : ldOut Try.prog 26 W (.pointer (some ⟨g, 0, none⟩)) = .ok (.value (.agg (cellsAt W g))) W := ldOut_any Try.underlying26 rfl (by kernel_rfl) W g h
attribute [local go_sem ↓] exec_store_start exec_load_start
attribute [local go_sem] store_start load_start
theorem exec_store_fmt (ρ : Operand → Value) (d : Option Tmp) (x y : Operand) (ty : TypeId) (ps : String) (af : Array Edge) (gd : Option (Nat × Bool)) (P : Program) (W : World) : (execOp ρ ⟨d, .store 24 x y, ty, ps, af, gd⟩).run P W = stOut P 24 W (ρ x) (ρ y) := rfl
theorem exec_load_fmt (ρ : Operand → Value) (d : Option Tmp) (x : Operand) (ty : TypeId) (ps : String) (af : Array Edge) (gd : Option (Nat × Bool)) (P : Program) (W : World) : (execOp ρ ⟨d, .load 24 x, ty, ps, af, gd⟩).run P W = ldOut P 24 W (ρ x) := rfl
theorem store_fmt (W : World) (g : Nat) (x0 : Int) (x1 : Int) (x2 : Bool) (x3 : Bool) (x4 : Int) (x5 : Int) (x6 : Int) (x7 : Int) (x8 : Int) (x9 : Int) (h : rowAt W g 24 10 = true) : stOut Try.prog 24 W (.pointer (some ⟨g, 0, none⟩)) (.agg #[.int .i64 x0, .int .i64 x1, .bool x2, .bool x3, .int .i64 x4, .int .i64 x5, .int .i64 x6, .int .i64 x7, .int .i64 x8, .int .i64 x9]) = .ok .skip (W.setRow g #[.int .i64 x0, .int .i64 x1, .bool x2, .bool x3, .int .i64 x4, .int .i64 x5, .int .i64 x6, .int .i64 x7, .int .i64 x8, .int .i64 x9]) := stOut_any (by kernel_rfl) W g _ rfl (by simp [Value.oneCell']) h
theorem load_fmt (W : World) (g : Nat) (h : rowAt W g 24 10 = true) : ldOut Try.prog 24 W (.pointer (some ⟨g, 0, none⟩)) = .ok (.value (.agg (cellsAt W g))) W := ldOut_any Try.underlying24 rfl (by kernel_rfl) W g h
attribute [local go_sem ↓] exec_store_fmt exec_load_fmt
attribute [local go_sem] store_fmt load_fmt
set_option maxHeartbeats 4000000 in
set_option maxRecDepth 100000 in
theorem start_r (w0 : World) (rb cb : Nat) (q : RS) (v0 : Int) (v1 : Int) (v2 : Int) (v3 : Int) (v4 : Bool) (v5 : Bool) (v6 : Int) (v7 : Int) (v8 : Int) (v9 : Int) (v10 : Int) (v11 : Int) (v12 : ByteArray) (q' : RS) (W : World) (h : Rd w0 rb cb q W) (hf : startS q = some ((v0, v1, v2, v3, v4, v5, v6, v7, v8, v9, v10, v11, v12), q')) :
  Calls Try.prog 63 #[.pointer (some ⟨rb, 0, none⟩)] W fun en W' => en = .returned (.agg #[.int .i64 v0, .int .i64 v1, .int .i64 v2, .int .i64 v3, .bool v4, .bool v5, .int .i64 v6, .int .i64 v7, .int .i64 v8, .int .i64 v9, .int .i64 v10, .int .i64 v11, .string v12]) ∧ Rd w0 rb cb q' W' ∧ KeptR rb cb W W' := by
 unfold startS at hf
 obtain ⟨⟨u0, q0⟩, e0, hf⟩ := Option.bind_eq_some_iff.1 hf
 obtain ⟨⟨u1, q1⟩, e1, hf⟩ := Option.bind_eq_some_iff.1 hf
 obtain ⟨⟨bs, q2⟩, e2, hf⟩ := Option.bind_eq_some_iff.1 hf
 obtain ⟨⟨f0, f1, f2, f3, f4, f5, f6, f7, f8, f9, fe⟩, e3, hf⟩ := Option.bind_eq_some_iff.1 hf
 obtain ⟨q3, hq3⟩ : ∃ x, failS q2 (u0 == 0 || u1 == 0) 3 = x := ⟨_, rfl⟩
 obtain ⟨q4, hq4⟩ : ∃ x, failS q3 (fe != 0) fe = x := ⟨_, rfl⟩
 simp only [] at hf
 rw [hq3, hq4] at hf
 have E0 := Lib.hid e0
 have E1 := Lib.hid e1
 have E2 := Lib.hid e2
 have E3 := Lib.hid e3
 have HQ3 := Lib.hid hq3
 have HQ4 := Lib.hid hq4
 have HF := Lib.hid hf
 have HR := Lib.hid h
 clear hf hq3 hq4 e0 e1 e2 e3
 obtain ⟨Wa, hWa⟩ : ∃ X, W.alloc (.cells #[.int .i64 0, .int .i64 0, .int .i64 0, .int .i64 0, .bool false, .bool false, .int .i64 0, .int .i64 0, .int .i64 0, .int .i64 0, .int .i64 0, .int .i64 0, .string ⟨#[]⟩] 26) = X := ⟨_, rfl⟩
 have HYa := Lib.hid (show Wa.heap[W.heap.size]? = some (.cells #[.int .i64 0, .int .i64 0, .int .i64 0, .int .i64 0, .bool false, .bool false, .int .i64 0, .int .i64 0, .int .i64 0, .int .i64 0, .int .i64 0, .int .i64 0, .string ⟨#[]⟩] 26 (0, 0)) from by rw [← hWa]; exact heap_alloc_new W (.cells #[.int .i64 0, .int .i64 0, .int .i64 0, .int .i64 0, .bool false, .bool false, .int .i64 0, .int .i64 0, .int .i64 0, .int .i64 0, .int .i64 0, .int .i64 0, .string ⟨#[]⟩] 26))
 have HBa := Lib.hid (show Below W.heap.size W Wa from by rw [← hWa]; exact below_alloc (Below.refl _ _) _)
 have HKa := Lib.hid (KeptR.below (rb := rb) (cb := cb) HBa.out)
 have HRa := Lib.hid (HR.out.below HBa.out)
 have y0 := HRa.out.c0
 have ncb0 : W.heap.size ≠ cb := by have := HR.out.clt; omega
 have nrb0 : W.heap.size ≠ rb := by have := HR.out.rlt; omega
 have HG0 := Lib.hid HR.out.low.size
 clear h
 go_enter Try.func63, Try.ntmps63
 go_upto_region 1 with (fail)
 try rw [hWa]
 clear hWa
 go_cut [3] (fun s3 wx => ∃ k, s3 = .pointer (some ⟨k, 0, none⟩) ∧ Hid (W.heap.size < k ∧ k ≠ rb ∧ k ≠ cb) ∧ Hid (wx.heap[k]? = some (.cells #[.int .i64 u0, .int .i64 u1, .int .i64 0, .int .i64 0, .bool false, .bool false, .int .i64 0, .int .i64 0, .int .i64 0, .int .i64 0, .int .i64 0, .int .i64 0, .string ⟨#[]⟩] 26 (0, 0))) ∧ Hid (wx.heap[W.heap.size]? = some (.cells #[.int .i64 0, .int .i64 0, .int .i64 0, .int .i64 0, .bool false, .bool false, .int .i64 0, .int .i64 0, .int .i64 0, .int .i64 0, .int .i64 0, .int .i64 0, .string ⟨#[]⟩] 26 (0, 0))) ∧ Hid (Rd w0 rb cb q1 wx) ∧ Hid (KeptR rb cb W wx))
 case first =>
  have nra : Wa.heap.size ≠ rb := by have := HRa.out.rlt; omega
  have nca : Wa.heap.size ≠ cb := by have := HRa.out.clt; omega
  have hsa : W.heap.size < Wa.heap.size := blk_lt HYa.out
  go_region_held3 (fun w' => w'.cell? ⟨rb, 0, none⟩ = some (.pointer (some ⟨cb, 0, none⟩))) (first | go_keep | exact (cell_setRow_other _ _ _ _ (Ne.symm nr2)).trans (HR2.out.below (below_alloc (Below.refl _ _) _)).c0 | exact (cell_setRow_other _ _ _ _ (Ne.symm nra)).trans HR2.out.c0 | exact (cell_setRow_other _ _ _ _ (Ne.symm nr1)).trans HR2.out.c0) (first | (go_at_call 51; (with_reducible refine (int_r w0 rb cb q 2 u0 q0 _ (by first | with_reducible exact HRa.out | with_reducible exact HRa.out.drew | with_reducible exact HRa.out.below (below_alloc (Below.refl _ _) _) | with_reducible exact (HRa.out.drew).below (below_alloc (Below.refl _ _) _)) E0.out).mono ?_); rintro en W1 ⟨rfl, h1, hk⟩; have y1 := h1.c0; have HR1 := Lib.hid h1; have HY1 := Lib.hid (show W1.heap[W.heap.size]? = some (.cells #[.int .i64 0, .int .i64 0, .int .i64 0, .int .i64 0, .bool false, .bool false, .int .i64 0, .int .i64 0, .int .i64 0, .int .i64 0, .int .i64 0, .int .i64 0, .string ⟨#[]⟩] 26 (0, 0)) from by first | with_reducible exact hk.blk HYa.out nrb0 ncb0 | with_reducible exact hk.blk (blk_drew HYa.out) nrb0 ncb0 | exact hk.blk (blk_below (blk_drew HYa.out) (below_alloc (Below.refl _ _) _)) nrb0 ncb0 | exact hk.blk (blk_below HYa.out (below_alloc (Below.refl _ _) _)) nrb0 ncb0); have HK1 := Lib.hid (show KeptR rb cb W W1 from by first | with_reducible exact HKa.out.trans hk | exact KeptR.trans (W1 := _) HKa.out hk | exact (HKa.out.trans (KeptR.below (below_alloc (Below.refl _ _) _))).trans hk | exact (KeptR.trans (W1 := World.drew _) HKa.out (KeptR.below (below_alloc (Below.refl _ _) _))).trans hk); have nr1 : W1.heap.size ≠ rb := (by have := h1.rlt; omega); have nc1 : W1.heap.size ≠ cb := (by have := h1.clt; omega); have hs1 : Wa.heap.size ≤ W1.heap.size := (by have h9 := hk.1; first | exact h9 | (simp at h9; omega)); (try have HXA := Lib.hid (show W1.heap[Wa.heap.size]? = some (.cells #[.int .i64 0, .int .i64 0, .int .i64 0, .int .i64 0, .bool false, .bool false, .int .i64 0, .int .i64 0, .int .i64 0, .int .i64 0, .int .i64 0, .int .i64 0, .string ⟨#[]⟩] 26 (0, 0)) from hk.blk (heap_alloc_new Wa.drew _) nra nca)); (try have hra : rowAt W1 Wa.heap.size 26 13 = true := rowAt_of HXA.out rfl); clear h1 hk) | (go_at_call 51; (with_reducible refine (int_r w0 rb cb q0 2 u1 q1 _ (by first | with_reducible exact HR1.out | with_reducible exact HR1.out.drew | with_reducible exact HR1.out.below (below_alloc (Below.refl _ _) _) | with_reducible exact (HR1.out.drew).below (below_alloc (Below.refl _ _) _)) E1.out).mono ?_); rintro en W2 ⟨rfl, h1, hk⟩; have y2 := h1.c0; have HR2 := Lib.hid h1; have HY2 := Lib.hid (show W2.heap[W.heap.size]? = some (.cells #[.int .i64 0, .int .i64 0, .int .i64 0, .int .i64 0, .bool false, .bool false, .int .i64 0, .int .i64 0, .int .i64 0, .int .i64 0, .int .i64 0, .int .i64 0, .string ⟨#[]⟩] 26 (0, 0)) from by first | with_reducible exact hk.blk HY1.out nrb0 ncb0 | with_reducible exact hk.blk (blk_drew HY1.out) nrb0 ncb0 | exact hk.blk (blk_below (blk_drew HY1.out) (below_alloc (Below.refl _ _) _)) nrb0 ncb0 | exact hk.blk (blk_below HY1.out (below_alloc (Below.refl _ _) _)) nrb0 ncb0); have HK2 := Lib.hid (show KeptR rb cb W W2 from by first | with_reducible exact HK1.out.trans hk | exact KeptR.trans (W1 := _) HK1.out hk | exact (HK1.out.trans (KeptR.below (below_alloc (Below.refl _ _) _))).trans hk | exact (KeptR.trans (W1 := World.drew _) HK1.out (KeptR.below (below_alloc (Below.refl _ _) _))).trans hk); have nr2 : W2.heap.size ≠ rb := (by have := h1.rlt; omega); have nc2 : W2.heap.size ≠ cb := (by have := h1.clt; omega); have hs2 : W1.heap.size ≤ W2.heap.size := (by have h9 := hk.1; first | exact h9 | (simp at h9; omega)); (try have HXB := Lib.hid (show W2.heap[Wa.heap.size]? = some (.cells #[.int .i64 0, .int .i64 0, .int .i64 0, .int .i64 0, .bool false, .bool false, .int .i64 0, .int .i64 0, .int .i64 0, .int .i64 0, .int .i64 0, .int .i64 0, .string ⟨#[]⟩] 26 (0, 0)) from hk.blk HXA.out nra nca)); (try have hrb : rowAt W2 Wa.heap.size 26 13 = true := rowAt_of HXB.out rfl); (try have HXC := Lib.hid (show W2.heap[W1.heap.size]? = some (.cells #[.int .i64 0, .int .i64 0, .int .i64 0, .int .i64 0, .bool false, .bool false, .int .i64 0, .int .i64 0, .int .i64 0, .int .i64 0, .int .i64 0, .int .i64 0, .string ⟨#[]⟩] 26 (0, 0)) from hk.blk (heap_alloc_new W1 _) nr1 nc1)); (try have hrc : rowAt W2 W1.heap.size 26 13 = true := rowAt_of HXC.out rfl); clear h1 hk))
  all_goals
   go_wp2_with fail
   go_meet
   first | exact start_cut HR2.out HK2.out HXB.out hsa nra nca HY2.out HG0.out | exact start_cut HR2.out HK2.out HXC.out (by omega) nr1 nc1 HY2.out HG0.out | exact start_cut (HR2.out.below (below_alloc (Below.refl _ _) _)) (HK2.out.trans (KeptR.below (below_alloc (Below.refl _ _) _))) (heap_alloc_new W2 _) (by omega) nr2 nc2 (blk_below HY2.out (below_alloc (Below.refl _ _) _)) HG0.out | (trace_state; sorry)
 case rest =>
  obtain ⟨kk, rfl, HN, HX2, HY2, HR2, HK2⟩ := hcut
  clear y0
  have y0 := HR2.out.c0
  have nkr : kk ≠ rb := HN.out.2.1
  have nkc : kk ≠ cb := HN.out.2.2
  go_wp2_with fail
  refine (bytes_r w0 rb cb q1 16 bs q2 _ HR2.out E2.out).mono ?_
  rintro en W3 ⟨rfl, h1, hk⟩
  have HR3 := Lib.hid h1
  have HX3 := Lib.hid (hk.blk HX2.out nkr nkc)
  have HY3 := Lib.hid (hk.blk HY2.out nrb0 ncb0)
  have HK3 := Lib.hid (HK2.out.trans hk)
  clear h1 hk
  clear y0
  have y0 := HR3.out.c0
  go_wp2_with fail
  refine (format_Parse.calls bs f0 f1 f2 f3 f4 f5 f6 f7 f8 f9 fe W3 E3.out).mono ?_
  rintro en W4 ⟨rfl, hb⟩
  obtain ⟨Wf, hWf⟩ : ∃ X, (W4.alloc (.cells #[.int .i64 0, .int .i64 0, .bool false, .bool false, .int .i64 0, .int .i64 0, .int .i64 0, .int .i64 0, .int .i64 0, .int .i64 0] 24)).setRow W4.heap.size #[.int .i64 f0, .int .i64 f1, .bool f2, .bool f3, .int .i64 f4, .int .i64 f5, .int .i64 f6, .int .i64 f7, .int .i64 f8, .int .i64 f9] = X := ⟨_, rfl⟩
  have hl4 : W3.heap.size ≤ W4.heap.size := hb.size
  have nf1 : W4.heap.size ≠ rb := by have := HR3.out.rlt; omega
  have nf2 : W4.heap.size ≠ cb := by have := HR3.out.clt; omega
  have nf3 : kk ≠ W4.heap.size := by have := blk_lt HX3.out; omega
  have nf4 : W.heap.size ≠ W4.heap.size := by have := blk_lt HY3.out; omega
  have hb2 := hb.trans ((below_alloc (Below.refl W4.heap.size W4) (.cells #[.int .i64 0, .int .i64 0, .bool false, .bool false, .int .i64 0, .int .i64 0, .int .i64 0, .int .i64 0, .int .i64 0, .int .i64 0] 24)).mono hb.size)
  have HX4 := Lib.hid (show Wf.heap[kk]? = some (.cells #[.int .i64 u0, .int .i64 u1, .int .i64 0, .int .i64 0, .bool false, .bool false, .int .i64 0, .int .i64 0, .int .i64 0, .int .i64 0, .int .i64 0, .int .i64 0, .string ⟨#[]⟩] 26 (0, 0)) from by rw [← hWf]; exact (setRow_other _ _ _ _ nf3).trans (blk_below HX3.out hb2))
  have HY4 := Lib.hid (show Wf.heap[W.heap.size]? = some (.cells #[.int .i64 0, .int .i64 0, .int .i64 0, .int .i64 0, .bool false, .bool false, .int .i64 0, .int .i64 0, .int .i64 0, .int .i64 0, .int .i64 0, .int .i64 0, .string ⟨#[]⟩] 26 (0, 0)) from by rw [← hWf]; exact (setRow_other _ _ _ _ nf4).trans (blk_below HY3.out hb2))
  have HG4 : w0.heap.size ≤ W4.heap.size := by have := HR3.out.low.size; omega
  have HR4 := Lib.hid (show Rd w0 rb cb q2 Wf from by rw [← hWf]; exact Rd.row (HR3.out.below hb2) nf1 nf2 HG4 _)
  have HW4 : W.heap.size ≤ W4.heap.size := by have := HK3.out.1; omega
  have HK4 := Lib.hid (show KeptR rb cb W Wf from by rw [← hWf]; exact KeptR.row (HK3.out.trans (KeptR.below hb2)) HW4 _)
  have HF4 := Lib.hid (show Wf.heap[W4.heap.size]? = some (.cells #[.int .i64 f0, .int .i64 f1, .bool f2, .bool f3, .int .i64 f4, .int .i64 f5, .int .i64 f6, .int .i64 f7, .int .i64 f8, .int .i64 f9] 24 (0, 0)) from by rw [← hWf]; exact setRow_heap _ _ _ _ _ _ (heap_alloc_new W4 _))
  clear hb hb2 y0
  have y0 := HR4.out.c0
  have x0 : Wf.cell? ⟨kk, 0, none⟩ = some (.int .i64 u0) := (blk_cell HX4.out 0).trans rfl
  have x1 : Wf.cell? ⟨kk, 1, none⟩ = some (.int .i64 u1) := (blk_cell HX4.out 1).trans rfl
  by_cases hu : u0 = 0
  ·as_aux_lemma =>
   have hub : (u0 == 0) = true := by simpa using hu
   have HQA := Lib.hid (show failS q2 true 3 = q3 from by have h9 := HQ3.out; rw [hub, Bool.true_or] at h9; exact h9)
   clear hu
   go_wp2_with fail
   clear x0 x1
   refine (fail_r w0 rb cb q2 true 3 Wf HR4.out).mono ?_
   rintro en W5 ⟨rfl, h1, hk⟩
   rw [HQA.out] at h1
   have HR5 := Lib.hid h1
   have HX5 := Lib.hid (hk.blk HX4.out nkr nkc)
   have HY5 := Lib.hid (hk.blk HY4.out nrb0 ncb0)
   have HK5 := Lib.hid (HK4.out.trans hk)
   have HF5 := Lib.hid (hk.blk HF4.out nf1 nf2)
   clear h1 hk
   clear y0
   have y0 := HR5.out.c0
   go_wp2_with fail
   refine (fail_r w0 rb cb q3 (fe != 0) fe W5 HR5.out).mono ?_
   rintro en W6 ⟨rfl, h1, hk⟩
   rw [HQ4.out] at h1
   have HR6 := Lib.hid h1
   have HX6 := Lib.hid (hk.blk HX5.out nkr nkc)
   have HY6 := Lib.hid (hk.blk HY5.out nrb0 ncb0)
   have HK6 := Lib.hid (HK5.out.trans hk)
   have HF6 := Lib.hid (hk.blk HF5.out nf1 nf2)
   have y1 := h1.c1
   clear h1 hk
   clear y0
   have y0 := HR6.out.c0
   have hf : (if q4.re = 0 then _ else _) = _ := HF.out
   by_cases hr : q4.re = 0
   ·as_aux_lemma =>
    rw [if_pos hr] at hf
    obtain ⟨⟨t, q5⟩, et, hf⟩ := Option.bind_eq_some_iff.1 hf
    obtain ⟨⟨rfl, rfl, rfl, rfl, rfl, rfl, rfl, rfl, rfl, rfl, rfl, rfl, rfl⟩, rfl⟩ : (u0 = v0 ∧ u1 = v1 ∧ f0 = v2 ∧ f1 = v3 ∧ f2 = v4 ∧ f3 = v5 ∧ f4 = v6 ∧ f5 = v7 ∧ f6 = v8 ∧ f7 = v9 ∧ f8 = v10 ∧ f9 = v11 ∧ t = v12) ∧ q5 = q' := by simpa using hf
    have ET := Lib.hid et
    have hrb : (q4.re == 0) = true := by simpa using hr
    clear hf HF et hr
    go_upto_region 6 with (fail)
    go_cut [3] (fun s3 wx => s3 = .pointer (some ⟨kk, 0, none⟩) ∧ Hid (wx.heap[kk]? = some (.cells #[.int .i64 u0, .int .i64 u1, .int .i64 f0, .int .i64 f1, .bool f2, .bool f3, .int .i64 f4, .int .i64 f5, .int .i64 f6, .int .i64 f7, .int .i64 f8, .int .i64 f9, .string t] 26 (0, 0))) ∧ Hid (wx.heap[W.heap.size]? = some (.cells #[.int .i64 0, .int .i64 0, .int .i64 0, .int .i64 0, .bool false, .bool false, .int .i64 0, .int .i64 0, .int .i64 0, .int .i64 0, .int .i64 0, .int .i64 0, .string ⟨#[]⟩] 26 (0, 0))) ∧ Hid (Rd w0 rb cb q5 wx) ∧ Hid (KeptR rb cb W wx))
    case first =>
     have hrf : rowAt W6.drew W4.heap.size 24 10 = true := rowAt_of (blk_drew HF6.out) rfl
     have hcf : cellsAt W6.drew W4.heap.size = #[.int .i64 f0, .int .i64 f1, .bool f2, .bool f3, .int .i64 f4, .int .i64 f5, .int .i64 f6, .int .i64 f7, .int .i64 f8, .int .i64 f9] := cellsAt_of (blk_drew HF6.out)
     have hrf0 : rowAt W6 W4.heap.size 24 10 = true := rowAt_of HF6.out rfl
     have hcf0 : cellsAt W6 W4.heap.size = #[.int .i64 f0, .int .i64 f1, .bool f2, .bool f3, .int .i64 f4, .int .i64 f5, .int .i64 f6, .int .i64 f7, .int .i64 f8, .int .i64 f9] := cellsAt_of HF6.out
     go_region_held3 (fun w' => rowAt w' W4.heap.size 24 10 = true ∧ cellsAt w' W4.heap.size = #[.int .i64 f0, .int .i64 f1, .bool f2, .bool f3, .int .i64 f4, .int .i64 f5, .int .i64 f6, .int .i64 f7, .int .i64 f8, .int .i64 f9]) (first | go_keep | exact ⟨hrf7, hcf7⟩ | exact ⟨rowAt_of ((setRow_other _ _ _ _ (Ne.symm nf3)).trans HF7.out) rfl, cellsAt_of ((setRow_other _ _ _ _ (Ne.symm nf3)).trans HF7.out)⟩ | exact ⟨rowAt_of (blk_far ((setRow_other _ _ _ _ (Ne.symm nf3)).trans HF7.out) (Ne.symm nf3) _) rfl, cellsAt_of (blk_far ((setRow_other _ _ _ _ (Ne.symm nf3)).trans HF7.out) (Ne.symm nf3) _)⟩) (first | (go_at_call 53; (with_reducible refine (text_r w0 rb cb q4 t q5 _ (by first | with_reducible exact HR6.out | with_reducible exact HR6.out.drew) ET.out).mono ?_); rintro en W7 ⟨rfl, h1, hk⟩; have HR7 := Lib.hid h1; have HX7 := Lib.hid (show W7.heap[kk]? = some (.cells #[.int .i64 u0, .int .i64 u1, .int .i64 0, .int .i64 0, .bool false, .bool false, .int .i64 0, .int .i64 0, .int .i64 0, .int .i64 0, .int .i64 0, .int .i64 0, .string ⟨#[]⟩] 26 (0, 0)) from hk.blk HX6.out nkr nkc); have HY7 := Lib.hid (show W7.heap[W.heap.size]? = some (.cells #[.int .i64 0, .int .i64 0, .int .i64 0, .int .i64 0, .bool false, .bool false, .int .i64 0, .int .i64 0, .int .i64 0, .int .i64 0, .int .i64 0, .int .i64 0, .string ⟨#[]⟩] 26 (0, 0)) from hk.blk HY6.out nrb0 ncb0); have HF7 := Lib.hid (show W7.heap[W4.heap.size]? = some (.cells #[.int .i64 f0, .int .i64 f1, .bool f2, .bool f3, .int .i64 f4, .int .i64 f5, .int .i64 f6, .int .i64 f7, .int .i64 f8, .int .i64 f9] 24 (0, 0)) from hk.blk HF6.out nf1 nf2); have HK7 := Lib.hid (show KeptR rb cb W W7 from HK6.out.trans hk); have hrf7 : rowAt W7 W4.heap.size 24 10 = true := rowAt_of HF7.out rfl; have hcf7 : cellsAt W7 W4.heap.size = #[.int .i64 f0, .int .i64 f1, .bool f2, .bool f3, .int .i64 f4, .int .i64 f5, .int .i64 f6, .int .i64 f7, .int .i64 f8, .int .i64 f9] := cellsAt_of HF7.out; have hrx7 : rowAt W7 kk 26 13 = true := rowAt_of HX7.out rfl; have hcx7 : cellsAt W7 kk = #[.int .i64 u0, .int .i64 u1, .int .i64 0, .int .i64 0, .bool false, .bool false, .int .i64 0, .int .i64 0, .int .i64 0, .int .i64 0, .int .i64 0, .int .i64 0, .string ⟨#[]⟩] := cellsAt_of HX7.out; clear h1 hk))
     all_goals
      go_wp2_with fail
      go_meet
      first | exact start_cut2 HR7.out HK7.out HX7.out HN.out.1 nkr nkc HY7.out HG0.out | (trace_state; sorry)
    case rest =>
     obtain ⟨rfl, HX8, HY8, HR8, HK8⟩ := hcut
     have hrx : rowAt wc kk 26 13 = true := rowAt_of HX8.out rfl
     have hcx : cellsAt wc kk = #[.int .i64 u0, .int .i64 u1, .int .i64 f0, .int .i64 f1, .bool f2, .bool f3, .int .i64 f4, .int .i64 f5, .int .i64 f6, .int .i64 f7, .int .i64 f8, .int .i64 f9, .string t] := cellsAt_of HX8.out
     have hst : rowAt wc W.heap.size 26 13 = true := rowAt_of HY8.out rfl
     have HE := Lib.hid (setRow_heap wc W.heap.size _ #[.int .i64 u0, .int .i64 u1, .int .i64 f0, .int .i64 f1, .bool f2, .bool f3, .int .i64 f4, .int .i64 f5, .int .i64 f6, .int .i64 f7, .int .i64 f8, .int .i64 f9, .string t] _ _ HY8.out)
     have HRz := Lib.hid (Rd.row HR8.out nrb0 ncb0 HG0.out #[.int .i64 u0, .int .i64 u1, .int .i64 f0, .int .i64 f1, .bool f2, .bool f3, .int .i64 f4, .int .i64 f5, .int .i64 f6, .int .i64 f7, .int .i64 f8, .int .i64 f9, .string t])
     have HKz := Lib.hid (show KeptR rb cb W _ from KeptR.row HK8.out (Nat.le_refl _) #[.int .i64 u0, .int .i64 u1, .int .i64 f0, .int .i64 f1, .bool f2, .bool f3, .int .i64 f4, .int .i64 f5, .int .i64 f6, .int .i64 f7, .int .i64 f8, .int .i64 f9, .string t])
     go_wp2_with fail
     refine bodyPost_ret (results_cell_row rfl _ _ W.heap.size 26 #[.int .i64 u0, .int .i64 u1, .int .i64 f0, .int .i64 f1, .bool f2, .bool f3, .int .i64 f4, .int .i64 f5, .int .i64 f6, .int .i64 f7, .int .i64 f8, .int .i64 f9, .string t] (0, 0) _ rfl (by with_reducible exact HE.out) Try.underlying26 rfl (by kernel_rfl)) rfl ?_
     exact ⟨rfl, by with_reducible exact HRz.out, by with_reducible exact HKz.out⟩
   ·as_aux_lemma =>
    rw [if_neg hr] at hf
    obtain ⟨⟨rfl, rfl, rfl, rfl, rfl, rfl, rfl, rfl, rfl, rfl, rfl, rfl, rfl⟩, rfl⟩ : (u0 = v0 ∧ u1 = v1 ∧ (0 : Int) = v2 ∧ (0 : Int) = v3 ∧ (false : Bool) = v4 ∧ (false : Bool) = v5 ∧ (0 : Int) = v6 ∧ (0 : Int) = v7 ∧ (0 : Int) = v8 ∧ (0 : Int) = v9 ∧ (0 : Int) = v10 ∧ (0 : Int) = v11 ∧ (⟨#[]⟩ : ByteArray) = v12) ∧ q4 = q' := by simpa using hf
    have hrb : (q4.re == 0) = false := by simpa using hr
    clear hf HF hr
    have hrx : rowAt W6 kk 26 13 = true := rowAt_of HX6.out rfl
    have hcx : cellsAt W6 kk = #[.int .i64 u0, .int .i64 u1, .int .i64 0, .int .i64 0, .bool false, .bool false, .int .i64 0, .int .i64 0, .int .i64 0, .int .i64 0, .int .i64 0, .int .i64 0, .string ⟨#[]⟩] := cellsAt_of HX6.out
    have hst : rowAt W6 W.heap.size 26 13 = true := rowAt_of HY6.out rfl
    have HE := Lib.hid (setRow_heap W6 W.heap.size _ #[.int .i64 u0, .int .i64 u1, .int .i64 0, .int .i64 0, .bool false, .bool false, .int .i64 0, .int .i64 0, .int .i64 0, .int .i64 0, .int .i64 0, .int .i64 0, .string ⟨#[]⟩] _ _ HY6.out)
    have HRz := Lib.hid (Rd.row HR6.out nrb0 ncb0 HG0.out #[.int .i64 u0, .int .i64 u1, .int .i64 0, .int .i64 0, .bool false, .bool false, .int .i64 0, .int .i64 0, .int .i64 0, .int .i64 0, .int .i64 0, .int .i64 0, .string ⟨#[]⟩])
    have HKz := Lib.hid (show KeptR rb cb W _ from KeptR.row HK6.out (Nat.le_refl _) #[.int .i64 u0, .int .i64 u1, .int .i64 0, .int .i64 0, .bool false, .bool false, .int .i64 0, .int .i64 0, .int .i64 0, .int .i64 0, .int .i64 0, .int .i64 0, .string ⟨#[]⟩])
    go_wp2_with fail
    refine bodyPost_ret (results_cell_row rfl _ _ W.heap.size 26 #[.int .i64 u0, .int .i64 u1, .int .i64 0, .int .i64 0, .bool false, .bool false, .int .i64 0, .int .i64 0, .int .i64 0, .int .i64 0, .int .i64 0, .int .i64 0, .string ⟨#[]⟩] (0, 0) _ rfl (by with_reducible exact HE.out) Try.underlying26 rfl (by kernel_rfl)) rfl ?_
    exact ⟨rfl, by with_reducible exact HRz.out, by with_reducible exact HKz.out⟩
  ·as_aux_lemma =>
   have hub : (u0 == 0) = false := by simpa using hu
   have HQA := Lib.hid (show failS q2 (u1 == 0) 3 = q3 from by have h9 := HQ3.out; rw [hub, Bool.false_or] at h9; exact h9)
   clear hu
   go_wp2_with fail
   clear x0 x1
   refine (fail_r w0 rb cb q2 (u1 == 0) 3 Wf HR4.out).mono ?_
   rintro en W5 ⟨rfl, h1, hk⟩
   rw [HQA.out] at h1
   have HR5 := Lib.hid h1
   have HX5 := Lib.hid (hk.blk HX4.out nkr nkc)
   have HY5 := Lib.hid (hk.blk HY4.out nrb0 ncb0)
   have HK5 := Lib.hid (HK4.out.trans hk)
   have HF5 := Lib.hid (hk.blk HF4.out nf1 nf2)
   clear h1 hk
   clear y0
   have y0 := HR5.out.c0
   go_wp2_with fail
   refine (fail_r w0 rb cb q3 (fe != 0) fe W5 HR5.out).mono ?_
   rintro en W6 ⟨rfl, h1, hk⟩
   rw [HQ4.out] at h1
   have HR6 := Lib.hid h1
   have HX6 := Lib.hid (hk.blk HX5.out nkr nkc)
   have HY6 := Lib.hid (hk.blk HY5.out nrb0 ncb0)
   have HK6 := Lib.hid (HK5.out.trans hk)
   have HF6 := Lib.hid (hk.blk HF5.out nf1 nf2)
   have y1 := h1.c1
   clear h1 hk
   clear y0
   have y0 := HR6.out.c0
   have hf : (if q4.re = 0 then _ else _) = _ := HF.out
   by_cases hr : q4.re = 0
   ·as_aux_lemma =>
    rw [if_pos hr] at hf
    obtain ⟨⟨t, q5⟩, et, hf⟩ := Option.bind_eq_some_iff.1 hf
    obtain ⟨⟨rfl, rfl, rfl, rfl, rfl, rfl, rfl, rfl, rfl, rfl, rfl, rfl, rfl⟩, rfl⟩ : (u0 = v0 ∧ u1 = v1 ∧ f0 = v2 ∧ f1 = v3 ∧ f2 = v4 ∧ f3 = v5 ∧ f4 = v6 ∧ f5 = v7 ∧ f6 = v8 ∧ f7 = v9 ∧ f8 = v10 ∧ f9 = v11 ∧ t = v12) ∧ q5 = q' := by simpa using hf
    have ET := Lib.hid et
    have hrb : (q4.re == 0) = true := by simpa using hr
    clear hf HF et hr
    go_upto_region 6 with (fail)
    go_cut [3] (fun s3 wx => s3 = .pointer (some ⟨kk, 0, none⟩) ∧ Hid (wx.heap[kk]? = some (.cells #[.int .i64 u0, .int .i64 u1, .int .i64 f0, .int .i64 f1, .bool f2, .bool f3, .int .i64 f4, .int .i64 f5, .int .i64 f6, .int .i64 f7, .int .i64 f8, .int .i64 f9, .string t] 26 (0, 0))) ∧ Hid (wx.heap[W.heap.size]? = some (.cells #[.int .i64 0, .int .i64 0, .int .i64 0, .int .i64 0, .bool false, .bool false, .int .i64 0, .int .i64 0, .int .i64 0, .int .i64 0, .int .i64 0, .int .i64 0, .string ⟨#[]⟩] 26 (0, 0))) ∧ Hid (Rd w0 rb cb q5 wx) ∧ Hid (KeptR rb cb W wx))
    case first =>
     have hrf : rowAt W6.drew W4.heap.size 24 10 = true := rowAt_of (blk_drew HF6.out) rfl
     have hcf : cellsAt W6.drew W4.heap.size = #[.int .i64 f0, .int .i64 f1, .bool f2, .bool f3, .int .i64 f4, .int .i64 f5, .int .i64 f6, .int .i64 f7, .int .i64 f8, .int .i64 f9] := cellsAt_of (blk_drew HF6.out)
     have hrf0 : rowAt W6 W4.heap.size 24 10 = true := rowAt_of HF6.out rfl
     have hcf0 : cellsAt W6 W4.heap.size = #[.int .i64 f0, .int .i64 f1, .bool f2, .bool f3, .int .i64 f4, .int .i64 f5, .int .i64 f6, .int .i64 f7, .int .i64 f8, .int .i64 f9] := cellsAt_of HF6.out
     go_region_held3 (fun w' => rowAt w' W4.heap.size 24 10 = true ∧ cellsAt w' W4.heap.size = #[.int .i64 f0, .int .i64 f1, .bool f2, .bool f3, .int .i64 f4, .int .i64 f5, .int .i64 f6, .int .i64 f7, .int .i64 f8, .int .i64 f9]) (first | go_keep | exact ⟨hrf7, hcf7⟩ | exact ⟨rowAt_of ((setRow_other _ _ _ _ (Ne.symm nf3)).trans HF7.out) rfl, cellsAt_of ((setRow_other _ _ _ _ (Ne.symm nf3)).trans HF7.out)⟩ | exact ⟨rowAt_of (blk_far ((setRow_other _ _ _ _ (Ne.symm nf3)).trans HF7.out) (Ne.symm nf3) _) rfl, cellsAt_of (blk_far ((setRow_other _ _ _ _ (Ne.symm nf3)).trans HF7.out) (Ne.symm nf3) _)⟩) (first | (go_at_call 53; (with_reducible refine (text_r w0 rb cb q4 t q5 _ (by first | with_reducible exact HR6.out | with_reducible exact HR6.out.drew) ET.out).mono ?_); rintro en W7 ⟨rfl, h1, hk⟩; have HR7 := Lib.hid h1; have HX7 := Lib.hid (show W7.heap[kk]? = some (.cells #[.int .i64 u0, .int .i64 u1, .int .i64 0, .int .i64 0, .bool false, .bool false, .int .i64 0, .int .i64 0, .int .i64 0, .int .i64 0, .int .i64 0, .int .i64 0, .string ⟨#[]⟩] 26 (0, 0)) from hk.blk HX6.out nkr nkc); have HY7 := Lib.hid (show W7.heap[W.heap.size]? = some (.cells #[.int .i64 0, .int .i64 0, .int .i64 0, .int .i64 0, .bool false, .bool false, .int .i64 0, .int .i64 0, .int .i64 0, .int .i64 0, .int .i64 0, .int .i64 0, .string ⟨#[]⟩] 26 (0, 0)) from hk.blk HY6.out nrb0 ncb0); have HF7 := Lib.hid (show W7.heap[W4.heap.size]? = some (.cells #[.int .i64 f0, .int .i64 f1, .bool f2, .bool f3, .int .i64 f4, .int .i64 f5, .int .i64 f6, .int .i64 f7, .int .i64 f8, .int .i64 f9] 24 (0, 0)) from hk.blk HF6.out nf1 nf2); have HK7 := Lib.hid (show KeptR rb cb W W7 from HK6.out.trans hk); have hrf7 : rowAt W7 W4.heap.size 24 10 = true := rowAt_of HF7.out rfl; have hcf7 : cellsAt W7 W4.heap.size = #[.int .i64 f0, .int .i64 f1, .bool f2, .bool f3, .int .i64 f4, .int .i64 f5, .int .i64 f6, .int .i64 f7, .int .i64 f8, .int .i64 f9] := cellsAt_of HF7.out; have hrx7 : rowAt W7 kk 26 13 = true := rowAt_of HX7.out rfl; have hcx7 : cellsAt W7 kk = #[.int .i64 u0, .int .i64 u1, .int .i64 0, .int .i64 0, .bool false, .bool false, .int .i64 0, .int .i64 0, .int .i64 0, .int .i64 0, .int .i64 0, .int .i64 0, .string ⟨#[]⟩] := cellsAt_of HX7.out; clear h1 hk))
     all_goals
      go_wp2_with fail
      go_meet
      first | exact start_cut2 HR7.out HK7.out HX7.out HN.out.1 nkr nkc HY7.out HG0.out | (trace_state; sorry)
    case rest =>
     obtain ⟨rfl, HX8, HY8, HR8, HK8⟩ := hcut
     have hrx : rowAt wc kk 26 13 = true := rowAt_of HX8.out rfl
     have hcx : cellsAt wc kk = #[.int .i64 u0, .int .i64 u1, .int .i64 f0, .int .i64 f1, .bool f2, .bool f3, .int .i64 f4, .int .i64 f5, .int .i64 f6, .int .i64 f7, .int .i64 f8, .int .i64 f9, .string t] := cellsAt_of HX8.out
     have hst : rowAt wc W.heap.size 26 13 = true := rowAt_of HY8.out rfl
     have HE := Lib.hid (setRow_heap wc W.heap.size _ #[.int .i64 u0, .int .i64 u1, .int .i64 f0, .int .i64 f1, .bool f2, .bool f3, .int .i64 f4, .int .i64 f5, .int .i64 f6, .int .i64 f7, .int .i64 f8, .int .i64 f9, .string t] _ _ HY8.out)
     have HRz := Lib.hid (Rd.row HR8.out nrb0 ncb0 HG0.out #[.int .i64 u0, .int .i64 u1, .int .i64 f0, .int .i64 f1, .bool f2, .bool f3, .int .i64 f4, .int .i64 f5, .int .i64 f6, .int .i64 f7, .int .i64 f8, .int .i64 f9, .string t])
     have HKz := Lib.hid (show KeptR rb cb W _ from KeptR.row HK8.out (Nat.le_refl _) #[.int .i64 u0, .int .i64 u1, .int .i64 f0, .int .i64 f1, .bool f2, .bool f3, .int .i64 f4, .int .i64 f5, .int .i64 f6, .int .i64 f7, .int .i64 f8, .int .i64 f9, .string t])
     go_wp2_with fail
     refine bodyPost_ret (results_cell_row rfl _ _ W.heap.size 26 #[.int .i64 u0, .int .i64 u1, .int .i64 f0, .int .i64 f1, .bool f2, .bool f3, .int .i64 f4, .int .i64 f5, .int .i64 f6, .int .i64 f7, .int .i64 f8, .int .i64 f9, .string t] (0, 0) _ rfl (by with_reducible exact HE.out) Try.underlying26 rfl (by kernel_rfl)) rfl ?_
     exact ⟨rfl, by with_reducible exact HRz.out, by with_reducible exact HKz.out⟩
   ·as_aux_lemma =>
    rw [if_neg hr] at hf
    obtain ⟨⟨rfl, rfl, rfl, rfl, rfl, rfl, rfl, rfl, rfl, rfl, rfl, rfl, rfl⟩, rfl⟩ : (u0 = v0 ∧ u1 = v1 ∧ (0 : Int) = v2 ∧ (0 : Int) = v3 ∧ (false : Bool) = v4 ∧ (false : Bool) = v5 ∧ (0 : Int) = v6 ∧ (0 : Int) = v7 ∧ (0 : Int) = v8 ∧ (0 : Int) = v9 ∧ (0 : Int) = v10 ∧ (0 : Int) = v11 ∧ (⟨#[]⟩ : ByteArray) = v12) ∧ q4 = q' := by simpa using hf
    have hrb : (q4.re == 0) = false := by simpa using hr
    clear hf HF hr
    have hrx : rowAt W6 kk 26 13 = true := rowAt_of HX6.out rfl
    have hcx : cellsAt W6 kk = #[.int .i64 u0, .int .i64 u1, .int .i64 0, .int .i64 0, .bool false, .bool false, .int .i64 0, .int .i64 0, .int .i64 0, .int .i64 0, .int .i64 0, .int .i64 0, .string ⟨#[]⟩] := cellsAt_of HX6.out
    have hst : rowAt W6 W.heap.size 26 13 = true := rowAt_of HY6.out rfl
    have HE := Lib.hid (setRow_heap W6 W.heap.size _ #[.int .i64 u0, .int .i64 u1, .int .i64 0, .int .i64 0, .bool false, .bool false, .int .i64 0, .int .i64 0, .int .i64 0, .int .i64 0, .int .i64 0, .int .i64 0, .string ⟨#[]⟩] _ _ HY6.out)
    have HRz := Lib.hid (Rd.row HR6.out nrb0 ncb0 HG0.out #[.int .i64 u0, .int .i64 u1, .int .i64 0, .int .i64 0, .bool false, .bool false, .int .i64 0, .int .i64 0, .int .i64 0, .int .i64 0, .int .i64 0, .int .i64 0, .string ⟨#[]⟩])
    have HKz := Lib.hid (show KeptR rb cb W _ from KeptR.row HK6.out (Nat.le_refl _) #[.int .i64 u0, .int .i64 u1, .int .i64 0, .int .i64 0, .bool false, .bool false, .int .i64 0, .int .i64 0, .int .i64 0, .int .i64 0, .int .i64 0, .int .i64 0, .string ⟨#[]⟩])
    go_wp2_with fail
    refine bodyPost_ret (results_cell_row rfl _ _ W.heap.size 26 #[.int .i64 u0, .int .i64 u1, .int .i64 0, .int .i64 0, .bool false, .bool false, .int .i64 0, .int .i64 0, .int .i64 0, .int .i64 0, .int .i64 0, .int .i64 0, .string ⟨#[]⟩] (0, 0) _ rfl (by with_reducible exact HE.out) Try.underlying26 rfl (by kernel_rfl)) rfl ?_
    exact ⟨rfl, by with_reducible exact HRz.out, by with_reducible exact HKz.out⟩
set_option maxHeartbeats 4000000 in
set_option maxRecDepth 100000 in
theorem servermsg_StartOf_read (s : ByteArray) (u0 : Int) (u1 : Int) (u2 : Int) (u3 : Int) (u4 : Bool) (u5 : Bool) (u6 : Int) (u7 : Int) (u8 : Int) (u9 : Int) (u10 : Int) (u11 : Int) (u12 : ByteArray) (q : RS) (v0 : Int) (v1 : Int) (v2 : Int) (v3 : Int) (v4 : Bool) (v5 : Bool) (v6 : Int) (v7 : Int) (v8 : Int) (v9 : Int) (v10 : Int) (v11 : Int) (v12 : ByteArray) (n1 n2 : Int) (w : World) (hf : startS ⟨s, 0, 0, 0⟩ = some ((u0, u1, u2, u3, u4, u5, u6, u7, u8, u9, u10, u11, u12), q)) (hv : (if q.re = 0 ∧ q.ce = 0 then some ((u0, u1, u2, u3, u4, u5, u6, u7, u8, u9, u10, u11, u12), q.at_, (0 : Int)) else some (((0 : Int), (0 : Int), (0 : Int), (0 : Int), (false : Bool), (false : Bool), (0 : Int), (0 : Int), (0 : Int), (0 : Int), (0 : Int), (0 : Int), (⟨#[]⟩ : ByteArray)), 0, if q.re = 0 then q.ce else q.re)) = some ((v0, v1, v2, v3, v4, v5, v6, v7, v8, v9, v10, v11, v12), n1, n2)) :
  Calls Try.prog 62 #[.string s, .func (.func 63) #[] #[]] w fun e w' => e = .returned (.tuple #[.agg #[.int .i64 v0, .int .i64 v1, .int .i64 v2, .int .i64 v3, .bool v4, .bool v5, .int .i64 v6, .int .i64 v7, .int .i64 v8, .int .i64 v9, .int .i64 v10, .int .i64 v11, .string v12], .int .i64 n1, .int .i64 n2]) ∧ Below w.heap.size w w' := by
 have HF := Lib.hid hf
 have HV := Lib.hid hv
 clear hf hv
 obtain ⟨Wa, hWa⟩ : ∃ X, w.alloc (.cells #[.int .i64 0, .int .i64 0, .int .i64 0, .int .i64 0, .bool false, .bool false, .int .i64 0, .int .i64 0, .int .i64 0, .int .i64 0, .int .i64 0, .int .i64 0, .string ⟨#[]⟩] 26) = X := ⟨_, rfl⟩
 have HYa := Lib.hid (show Wa.heap[w.heap.size]? = some (.cells #[.int .i64 0, .int .i64 0, .int .i64 0, .int .i64 0, .bool false, .bool false, .int .i64 0, .int .i64 0, .int .i64 0, .int .i64 0, .int .i64 0, .int .i64 0, .string ⟨#[]⟩] 26 (0, 0)) from by rw [← hWa]; exact heap_alloc_new w (.cells #[.int .i64 0, .int .i64 0, .int .i64 0, .int .i64 0, .bool false, .bool false, .int .i64 0, .int .i64 0, .int .i64 0, .int .i64 0, .int .i64 0, .int .i64 0, .string ⟨#[]⟩] 26))
 have HBa := Lib.hid (show Below w.heap.size w Wa from by rw [← hWa]; exact below_alloc (Below.refl _ _) _)
 have HLa := Lib.hid (show w.heap.size < Wa.heap.size from by rw [← hWa]; simp)
 go_enter Try.func62, Try.ntmps62
 go_wp2_with fail
 try rw [hWa]
 clear hWa
 refine (octets_New.calls s s 0 0 w Wa HBa.out rfl).mono ?_
 rintro en w1 ⟨g, rfl, hi, hb, hb2⟩
 have HY1 := Lib.hid (blk_below HYa.out hb2)
 have hg1 : w.heap.size ≠ g := fun e => by have h1 := HY1.out; rw [e, hi.1] at h1; simp at h1
 have hrb : w.heap.size < w1.heap.size := blk_lt HY1.out
 obtain ⟨W1, hW1⟩ : ∃ X, w1.alloc (.cells #[.pointer (some ⟨g, 0, none⟩), .int .i64 0] 101) = X := ⟨_, rfl⟩
 have HR := Lib.hid (show Rd w w1.heap.size g ⟨s, 0, 0, 0⟩ W1 from by rw [← hW1]; exact rd_new hi hb)
 have HY2 := Lib.hid (show W1.heap[w.heap.size]? = some (.cells #[.int .i64 0, .int .i64 0, .int .i64 0, .int .i64 0, .bool false, .bool false, .int .i64 0, .int .i64 0, .int .i64 0, .int .i64 0, .int .i64 0, .int .i64 0, .string ⟨#[]⟩] 26 (0, 0)) from by rw [← hW1]; exact blk_below HY1.out (below_alloc (Below.refl _ _) _))
 clear hi hb hb2
 go_wp2_with fail
 try rw [hW1]
 clear hW1
 obtain ⟨rb, hrbe⟩ : ∃ x, w1.heap.size = x := ⟨_, rfl⟩
 rw [hrbe] at HR hrb ⊢
 clear hrbe
 refine (start_r w rb g ⟨s, 0, 0, 0⟩ u0 u1 u2 u3 u4 u5 u6 u7 u8 u9 u10 u11 u12 q W1 HR.out HF.out).mono ?_
 rintro en W2 ⟨rfl, h1, hk⟩
 have y0 := h1.c0
 have y1 := h1.c1
 have HR2 := Lib.hid h1
 have HY3 := Lib.hid (hk.blk HY2.out (by omega) hg1)
 have hv := HV.out
 clear h1 hk
 have huStart := Try.underlying26
 have huFormat := Try.underlying24
 have hl1 := HR2.out.rlt
 have hl2 := HR2.out.clt
 have hl3 := blk_lt HY3.out
 have hne1 : rb ≠ W2.heap.size := by omega
 have hne2 : w.heap.size ≠ W2.heap.size := by omega
 have HXw := Lib.hid (heap_alloc_new W2 (.cells #[.int .i64 0, .int .i64 0, .int .i64 0, .int .i64 0, .bool false, .bool false, .int .i64 0, .int .i64 0, .int .i64 0, .int .i64 0, .int .i64 0, .int .i64 0, .string ⟨#[]⟩] 26))
 have hsta : rowAt (W2.alloc (.cells #[.int .i64 0, .int .i64 0, .int .i64 0, .int .i64 0, .bool false, .bool false, .int .i64 0, .int .i64 0, .int .i64 0, .int .i64 0, .int .i64 0, .int .i64 0, .string ⟨#[]⟩] 26)) (W2.heap.size) 26 13 = true := rowAt_of HXw.out rfl
 obtain ⟨Wb, hWb⟩ : ∃ X, (W2.alloc (.cells #[.int .i64 0, .int .i64 0, .int .i64 0, .int .i64 0, .bool false, .bool false, .int .i64 0, .int .i64 0, .int .i64 0, .int .i64 0, .int .i64 0, .int .i64 0, .string ⟨#[]⟩] 26)).setRow W2.heap.size #[.int .i64 u0, .int .i64 u1, .int .i64 u2, .int .i64 u3, .bool u4, .bool u5, .int .i64 u6, .int .i64 u7, .int .i64 u8, .int .i64 u9, .int .i64 u10, .int .i64 u11, .string u12] = X := ⟨_, rfl⟩
 have HRb := Lib.hid (show Rd w rb g q Wb from by rw [← hWb]; exact Rd.row (HR2.out.below (below_alloc (Below.refl _ _) _)) (by omega) (by have := HR2.out.clt; omega) (by have := HR2.out.low.size; omega) _)
 have HXb := Lib.hid (show Wb.heap[W2.heap.size]? = some (.cells #[.int .i64 u0, .int .i64 u1, .int .i64 u2, .int .i64 u3, .bool u4, .bool u5, .int .i64 u6, .int .i64 u7, .int .i64 u8, .int .i64 u9, .int .i64 u10, .int .i64 u11, .string u12] 26 (0, 0)) from by rw [← hWb]; exact setRow_heap _ _ _ _ _ _ HXw.out)
 have HYb := Lib.hid (show Wb.heap[w.heap.size]? = some (.cells #[.int .i64 0, .int .i64 0, .int .i64 0, .int .i64 0, .bool false, .bool false, .int .i64 0, .int .i64 0, .int .i64 0, .int .i64 0, .int .i64 0, .int .i64 0, .string ⟨#[]⟩] 26 (0, 0)) from by rw [← hWb]; exact (setRow_other _ _ _ _ hne2).trans (blk_below HY3.out (below_alloc (Below.refl _ _) _)))
 clear y0 y1
 have y0 := HRb.out.c0
 have y1 := HRb.out.c1
 have HG0 := Lib.hid (Nat.le_refl w.heap.size)
 have nrb0 : w.heap.size ≠ rb := by omega
 have ncb0 : w.heap.size ≠ g := hg1
 by_cases hr : q.re = 0
 ·have hrb1 : (q.re == 0) = true := by simpa using hr
  by_cases hc : q.ce = 0
  ·rw [if_pos ⟨hr, hc⟩] at hv
   obtain ⟨⟨rfl, rfl, rfl, rfl, rfl, rfl, rfl, rfl, rfl, rfl, rfl, rfl, rfl⟩, rfl, rfl⟩ : (u0 = v0 ∧ u1 = v1 ∧ u2 = v2 ∧ u3 = v3 ∧ u4 = v4 ∧ u5 = v5 ∧ u6 = v6 ∧ u7 = v7 ∧ u8 = v8 ∧ u9 = v9 ∧ u10 = v10 ∧ u11 = v11 ∧ u12 = v12) ∧ q.at_ = n1 ∧ (0 : Int) = n2 := by simpa using hv
   have hcb : (q.ce != 0) = false := by simpa using hc
   clear hr hc hv HV
   go_wp2_with fail
   try rw [hWb]
   clear hWb
   refine (err_q w rb g q Wb HRb.out).mono ?_
   rintro en W3 ⟨rfl, hw⟩
   rw [hw]
   clear hw
   have hld : rowAt Wb W2.heap.size 26 13 = true := rowAt_of HXb.out rfl
   have hldc : cellsAt Wb W2.heap.size = #[.int .i64 u0, .int .i64 u1, .int .i64 u2, .int .i64 u3, .bool u4, .bool u5, .int .i64 u6, .int .i64 u7, .int .i64 u8, .int .i64 u9, .int .i64 u10, .int .i64 u11, .string u12] := cellsAt_of HXb.out
   have hld2 : rowAt Wb.drew W2.heap.size 26 13 = true := rowAt_of (blk_drew HXb.out) rfl
   have hld2c : cellsAt Wb.drew W2.heap.size = #[.int .i64 u0, .int .i64 u1, .int .i64 u2, .int .i64 u3, .bool u4, .bool u5, .int .i64 u6, .int .i64 u7, .int .i64 u8, .int .i64 u9, .int .i64 u10, .int .i64 u11, .string u12] := cellsAt_of (blk_drew HXb.out)
   clear hsta
   have hst : rowAt Wb (w.heap.size) 26 13 = true := rowAt_of HYb.out rfl
   have hst2 : rowAt Wb.drew (w.heap.size) 26 13 = true := rowAt_of (blk_drew HYb.out) rfl
   go_wp2_with fail
   have HC := Lib.hid (setRow_heap Wb w.heap.size _ #[.int .i64 u0, .int .i64 u1, .int .i64 u2, .int .i64 u3, .bool u4, .bool u5, .int .i64 u6, .int .i64 u7, .int .i64 u8, .int .i64 u9, .int .i64 u10, .int .i64 u11, .string u12] _ _ HYb.out)
   have HC2 := Lib.hid (setRow_heap Wb.drew w.heap.size _ #[.int .i64 u0, .int .i64 u1, .int .i64 u2, .int .i64 u3, .bool u4, .bool u5, .int .i64 u6, .int .i64 u7, .int .i64 u8, .int .i64 u9, .int .i64 u10, .int .i64 u11, .string u12] _ _ (blk_drew HYb.out))
   have HRz := Lib.hid (Rd.row HRb.out nrb0 ncb0 HG0.out #[.int .i64 u0, .int .i64 u1, .int .i64 u2, .int .i64 u3, .bool u4, .bool u5, .int .i64 u6, .int .i64 u7, .int .i64 u8, .int .i64 u9, .int .i64 u10, .int .i64 u11, .string u12])
   have HRz2 := Lib.hid (Rd.row HRb.out.drew nrb0 ncb0 HG0.out #[.int .i64 u0, .int .i64 u1, .int .i64 u2, .int .i64 u3, .bool u4, .bool u5, .int .i64 u6, .int .i64 u7, .int .i64 u8, .int .i64 u9, .int .i64 u10, .int .i64 u11, .string u12])
   clear hld hld2 hldc hld2c hst hst2 y1
   have hd1 : rowAt Wb.drew W2.heap.size 26 13 = true := rowAt_of (blk_drew HXb.out) rfl
   have hd2 : cellsAt Wb.drew W2.heap.size = #[.int .i64 u0, .int .i64 u1, .int .i64 u2, .int .i64 u3, .bool u4, .bool u5, .int .i64 u6, .int .i64 u7, .int .i64 u8, .int .i64 u9, .int .i64 u10, .int .i64 u11, .string u12] := cellsAt_of (blk_drew HXb.out)
   have hd3 : Wb.drew.cell? ⟨rb, 0, none⟩ = some (.pointer (some ⟨g, 0, none⟩)) := HRb.out.drew.c0
   go_still_tail 6, (by kernel_rfl)
   still_call (at_q w rb g q _ HRb.out.drew)
   try refine wpStill_nil ?_
   change wpList _ _ _ _ _ Wb.drew
   clear hd1 hd2 hd3
   have hst : rowAt Wb.drew w.heap.size 26 13 = true := rowAt_of (blk_drew HYb.out) rfl
   go_wp2_with fail
   all_goals (refine bodyPost_ret (results_ctt rfl _ _ w.heap.size 26 #[.int .i64 u0, .int .i64 u1, .int .i64 u2, .int .i64 u3, .bool u4, .bool u5, .int .i64 u6, .int .i64 u7, .int .i64 u8, .int .i64 u9, .int .i64 u10, .int .i64 u11, .string u12] (0, 0) _ rfl (by first | with_reducible exact HC.out | with_reducible exact blk_drew HC.out | with_reducible exact HC2.out | with_reducible exact blk_drew HC2.out) Try.underlying26 rfl (by kernel_rfl)) rfl ?_; exact ⟨rfl, by first | with_reducible exact HRz.out.low | with_reducible exact Below.drew HRz.out.low | with_reducible exact HRz2.out.low | with_reducible exact Below.drew HRz2.out.low⟩)
  ·rw [if_neg (fun h => hc h.2), if_pos hr] at hv
   obtain ⟨⟨rfl, rfl, rfl, rfl, rfl, rfl, rfl, rfl, rfl, rfl, rfl, rfl, rfl⟩, rfl, rfl⟩ : ((0 : Int) = v0 ∧ (0 : Int) = v1 ∧ (0 : Int) = v2 ∧ (0 : Int) = v3 ∧ (false : Bool) = v4 ∧ (false : Bool) = v5 ∧ (0 : Int) = v6 ∧ (0 : Int) = v7 ∧ (0 : Int) = v8 ∧ (0 : Int) = v9 ∧ (0 : Int) = v10 ∧ (0 : Int) = v11 ∧ (⟨#[]⟩ : ByteArray) = v12) ∧ (0 : Int) = n1 ∧ q.ce = n2 := by simpa using hv
   have hcb : (q.ce != 0) = true := by simpa using hc
   clear hr hc hv HV
   go_wp2_with fail
   try rw [hWb]
   clear hWb
   refine (err_q w rb g q Wb HRb.out).mono ?_
   rintro en W3 ⟨rfl, hw⟩
   rw [hw]
   clear hw
   obtain ⟨Wc, hWc⟩ : ∃ X, Wb.alloc (.cells #[.int .i64 0, .int .i64 0, .int .i64 0, .int .i64 0, .bool false, .bool false, .int .i64 0, .int .i64 0, .int .i64 0, .int .i64 0, .int .i64 0, .int .i64 0, .string ⟨#[]⟩] 26) = X := ⟨_, rfl⟩
   have HYc := Lib.hid (show Wc.heap[w.heap.size]? = some (.cells #[.int .i64 0, .int .i64 0, .int .i64 0, .int .i64 0, .bool false, .bool false, .int .i64 0, .int .i64 0, .int .i64 0, .int .i64 0, .int .i64 0, .int .i64 0, .string ⟨#[]⟩] 26 (0, 0)) from by rw [← hWc]; exact blk_below HYb.out (below_alloc (Below.refl _ _) _))
   have HXc := Lib.hid (show Wc.heap[Wb.heap.size]? = some (.cells #[.int .i64 0, .int .i64 0, .int .i64 0, .int .i64 0, .bool false, .bool false, .int .i64 0, .int .i64 0, .int .i64 0, .int .i64 0, .int .i64 0, .int .i64 0, .string ⟨#[]⟩] 26 (0, 0)) from by rw [← hWc]; exact heap_alloc_new Wb _)
   have hld : rowAt Wc Wb.heap.size 26 13 = true := rowAt_of HXc.out rfl
   have hldc : cellsAt Wc Wb.heap.size = #[.int .i64 0, .int .i64 0, .int .i64 0, .int .i64 0, .bool false, .bool false, .int .i64 0, .int .i64 0, .int .i64 0, .int .i64 0, .int .i64 0, .int .i64 0, .string ⟨#[]⟩] := cellsAt_of HXc.out
   have HRc := Lib.hid (show Rd w rb g q Wc from by rw [← hWc]; exact HRb.out.below (below_alloc (Below.refl _ _) _))
   have HC := Lib.hid (setRow_heap Wc w.heap.size _ #[.int .i64 0, .int .i64 0, .int .i64 0, .int .i64 0, .bool false, .bool false, .int .i64 0, .int .i64 0, .int .i64 0, .int .i64 0, .int .i64 0, .int .i64 0, .string ⟨#[]⟩] _ _ HYc.out)
   have HRz := Lib.hid (Rd.row HRc.out nrb0 ncb0 HG0.out #[.int .i64 0, .int .i64 0, .int .i64 0, .int .i64 0, .bool false, .bool false, .int .i64 0, .int .i64 0, .int .i64 0, .int .i64 0, .int .i64 0, .int .i64 0, .string ⟨#[]⟩])
   have hst : rowAt Wc (w.heap.size) 26 13 = true := rowAt_of HYc.out rfl
   go_wp2_with fail
   refine bodyPost_ret (results_ctt rfl _ _ w.heap.size 26 #[.int .i64 0, .int .i64 0, .int .i64 0, .int .i64 0, .bool false, .bool false, .int .i64 0, .int .i64 0, .int .i64 0, .int .i64 0, .int .i64 0, .int .i64 0, .string ⟨#[]⟩] (0, 0) _ rfl (by first | with_reducible exact HC.out | with_reducible exact blk_drew HC.out) Try.underlying26 rfl (by kernel_rfl)) rfl ?_
   exact ⟨rfl, by first | with_reducible exact HRz.out.low | with_reducible exact Below.drew HRz.out.low⟩
 ·rw [if_neg (fun h => hr h.1), if_neg hr] at hv
  obtain ⟨⟨rfl, rfl, rfl, rfl, rfl, rfl, rfl, rfl, rfl, rfl, rfl, rfl, rfl⟩, rfl, rfl⟩ : ((0 : Int) = v0 ∧ (0 : Int) = v1 ∧ (0 : Int) = v2 ∧ (0 : Int) = v3 ∧ (false : Bool) = v4 ∧ (false : Bool) = v5 ∧ (0 : Int) = v6 ∧ (0 : Int) = v7 ∧ (0 : Int) = v8 ∧ (0 : Int) = v9 ∧ (0 : Int) = v10 ∧ (0 : Int) = v11 ∧ (⟨#[]⟩ : ByteArray) = v12) ∧ (0 : Int) = n1 ∧ q.re = n2 := by simpa using hv
  have hrb1 : (q.re == 0) = false := by simpa using hr
  have hrb2 : (q.re != 0) = true := by simpa using hr
  clear hr hv HV
  obtain ⟨Wc, hWc⟩ : ∃ X, Wb.alloc (.cells #[.int .i64 0, .int .i64 0, .int .i64 0, .int .i64 0, .bool false, .bool false, .int .i64 0, .int .i64 0, .int .i64 0, .int .i64 0, .int .i64 0, .int .i64 0, .string ⟨#[]⟩] 26) = X := ⟨_, rfl⟩
  have HYc := Lib.hid (show Wc.heap[w.heap.size]? = some (.cells #[.int .i64 0, .int .i64 0, .int .i64 0, .int .i64 0, .bool false, .bool false, .int .i64 0, .int .i64 0, .int .i64 0, .int .i64 0, .int .i64 0, .int .i64 0, .string ⟨#[]⟩] 26 (0, 0)) from by rw [← hWc]; exact blk_below HYb.out (below_alloc (Below.refl _ _) _))
  have HXc := Lib.hid (show Wc.heap[Wb.heap.size]? = some (.cells #[.int .i64 0, .int .i64 0, .int .i64 0, .int .i64 0, .bool false, .bool false, .int .i64 0, .int .i64 0, .int .i64 0, .int .i64 0, .int .i64 0, .int .i64 0, .string ⟨#[]⟩] 26 (0, 0)) from by rw [← hWc]; exact heap_alloc_new Wb _)
  have hld : rowAt Wc Wb.heap.size 26 13 = true := rowAt_of HXc.out rfl
  have hldc : cellsAt Wc Wb.heap.size = #[.int .i64 0, .int .i64 0, .int .i64 0, .int .i64 0, .bool false, .bool false, .int .i64 0, .int .i64 0, .int .i64 0, .int .i64 0, .int .i64 0, .int .i64 0, .string ⟨#[]⟩] := cellsAt_of HXc.out
  have HRc := Lib.hid (show Rd w rb g q Wc from by rw [← hWc]; exact HRb.out.below (below_alloc (Below.refl _ _) _))
  have HC := Lib.hid (setRow_heap Wc w.heap.size _ #[.int .i64 0, .int .i64 0, .int .i64 0, .int .i64 0, .bool false, .bool false, .int .i64 0, .int .i64 0, .int .i64 0, .int .i64 0, .int .i64 0, .int .i64 0, .string ⟨#[]⟩] _ _ HYc.out)
  have HRz := Lib.hid (Rd.row HRc.out nrb0 ncb0 HG0.out #[.int .i64 0, .int .i64 0, .int .i64 0, .int .i64 0, .bool false, .bool false, .int .i64 0, .int .i64 0, .int .i64 0, .int .i64 0, .int .i64 0, .int .i64 0, .string ⟨#[]⟩])
  have hst : rowAt Wc (w.heap.size) 26 13 = true := rowAt_of HYc.out rfl
  go_wp2_with fail
  refine bodyPost_ret (results_ctt rfl _ _ w.heap.size 26 #[.int .i64 0, .int .i64 0, .int .i64 0, .int .i64 0, .bool false, .bool false, .int .i64 0, .int .i64 0, .int .i64 0, .int .i64 0, .int .i64 0, .int .i64 0, .string ⟨#[]⟩] (0, 0) _ rfl (by first | with_reducible exact HC.out | with_reducible exact blk_drew HC.out) Try.underlying26 rfl (by kernel_rfl)) rfl ?_
  exact ⟨rfl, by first | with_reducible exact HRz.out.low | with_reducible exact Below.drew HRz.out.low⟩
def servermsg_StartOf.f (a0 : ByteArray) : Option (Int × Int × Int × Int × Bool × Bool × Int × Int × Int × Int × Int × Int × ByteArray × Int × Int) := (startS ⟨a0, 0, 0, 0⟩).bind fun p => if p.2.re = 0 ∧ p.2.ce = 0 then some (p.1.1, p.1.2.1, p.1.2.2.1, p.1.2.2.2.1, p.1.2.2.2.2.1, p.1.2.2.2.2.2.1, p.1.2.2.2.2.2.2.1, p.1.2.2.2.2.2.2.2.1, p.1.2.2.2.2.2.2.2.2.1, p.1.2.2.2.2.2.2.2.2.2.1, p.1.2.2.2.2.2.2.2.2.2.2.1, p.1.2.2.2.2.2.2.2.2.2.2.2.1, p.1.2.2.2.2.2.2.2.2.2.2.2.2, p.2.at_, 0) else some (0, 0, 0, 0, false, false, 0, 0, 0, 0, 0, 0, ⟨#[]⟩, 0, if p.2.re = 0 then p.2.ce else p.2.re)
set_option maxHeartbeats 1000000 in
set_option maxRecDepth 100000 in
theorem servermsg_StartOf.calls (a0 : ByteArray) (r1 : Int) (r2 : Int) (r3 : Int) (r4 : Int) (r5 : Bool) (r6 : Bool) (r7 : Int) (r8 : Int) (r9 : Int) (r10 : Int) (r11 : Int) (r12 : Int) (r13 : ByteArray) (r14 r15 : Int) (w : World) (h : servermsg_StartOf.f a0 = some (r1, r2, r3, r4, r5, r6, r7, r8, r9, r10, r11, r12, r13, r14, r15)) :
  Calls Try.prog 25 #[.string a0] w fun e w' => e = .returned (.tuple #[.agg #[.int .i64 r1, .int .i64 r2, .int .i64 r3, .int .i64 r4, .bool r5, .bool r6, .int .i64 r7, .int .i64 r8, .int .i64 r9, .int .i64 r10, .int .i64 r11, .int .i64 r12, .string r13], .int .i64 r14, .int .i64 r15]) ∧ Below w.heap.size w w' := by
 unfold servermsg_StartOf.f at h
 obtain ⟨⟨⟨u0, u1, u2, u3, u4, u5, u6, u7, u8, u9, u10, u11, u12⟩, q⟩, e1, h⟩ := Option.bind_eq_some_iff.1 h
 have H := Lib.hid e1
 have HV : ∃ (v0 : Int) (v1 : Int) (v2 : Int) (v3 : Int) (v4 : Bool) (v5 : Bool) (v6 : Int) (v7 : Int) (v8 : Int) (v9 : Int) (v10 : Int) (v11 : Int) (v12 : ByteArray) (n1 n2 : Int), (if q.re = 0 ∧ q.ce = 0 then some ((u0, u1, u2, u3, u4, u5, u6, u7, u8, u9, u10, u11, u12), q.at_, (0 : Int)) else some (((0 : Int), (0 : Int), (0 : Int), (0 : Int), (false : Bool), (false : Bool), (0 : Int), (0 : Int), (0 : Int), (0 : Int), (0 : Int), (0 : Int), (⟨#[]⟩ : ByteArray)), 0, if q.re = 0 then q.ce else q.re)) = some ((v0, v1, v2, v3, v4, v5, v6, v7, v8, v9, v10, v11, v12), n1, n2) ∧ v0 = r1 ∧ v1 = r2 ∧ v2 = r3 ∧ v3 = r4 ∧ v4 = r5 ∧ v5 = r6 ∧ v6 = r7 ∧ v7 = r8 ∧ v8 = r9 ∧ v9 = r10 ∧ v10 = r11 ∧ v11 = r12 ∧ v12 = r13 ∧ n1 = r14 ∧ n2 = r15 := by
  have h : (if q.re = 0 ∧ q.ce = 0 then some (u0, u1, u2, u3, u4, u5, u6, u7, u8, u9, u10, u11, u12, q.at_, (0 : Int)) else some (0, 0, 0, 0, false, false, 0, 0, 0, 0, 0, 0, ⟨#[]⟩, 0, if q.re = 0 then q.ce else q.re)) = some (r1, r2, r3, r4, r5, r6, r7, r8, r9, r10, r11, r12, r13, r14, r15) := h
  by_cases hc : q.re = 0 ∧ q.ce = 0
  ·rw [if_pos hc] at h ⊢; exact ⟨u0, u1, u2, u3, u4, u5, u6, u7, u8, u9, u10, u11, u12, _, _, rfl, by simpa [and_assoc] using h⟩
  ·rw [if_neg hc] at h ⊢; exact ⟨0, 0, 0, 0, false, false, 0, 0, 0, 0, 0, 0, ⟨#[]⟩, _, _, rfl, by simpa [and_assoc] using h⟩
 obtain ⟨v0, v1, v2, v3, v4, v5, v6, v7, v8, v9, v10, v11, v12, n1, n2, hv, rfl, rfl, rfl, rfl, rfl, rfl, rfl, rfl, rfl, rfl, rfl, rfl, rfl, rfl, rfl⟩ := HV
 have HV := Lib.hid hv
 clear h e1 hv
 have HY0 := Lib.hid (heap_alloc_new w (.cells #[.int .i64 0, .int .i64 0, .int .i64 0, .int .i64 0, .bool false, .bool false, .int .i64 0, .int .i64 0, .int .i64 0, .int .i64 0, .int .i64 0, .int .i64 0, .string ⟨#[]⟩] 26))
 obtain ⟨Wa, hWa⟩ : ∃ X, w.alloc (.cells #[.int .i64 0, .int .i64 0, .int .i64 0, .int .i64 0, .bool false, .bool false, .int .i64 0, .int .i64 0, .int .i64 0, .int .i64 0, .int .i64 0, .int .i64 0, .string ⟨#[]⟩] 26) = X := ⟨_, rfl⟩
 have HYa := Lib.hid (show Wa.heap[w.heap.size]? = some (.cells #[.int .i64 0, .int .i64 0, .int .i64 0, .int .i64 0, .bool false, .bool false, .int .i64 0, .int .i64 0, .int .i64 0, .int .i64 0, .int .i64 0, .int .i64 0, .string ⟨#[]⟩] 26 (0, 0)) from by rw [← hWa]; exact HY0.out)
 have HBa := Lib.hid (show Below w.heap.size w Wa from by rw [← hWa]; exact below_alloc (Below.refl _ _) _)
 clear HY0
 go_enter Try.func25, Try.ntmps25
 go_wp2_with fail
 try rw [hWa]
 clear hWa
 refine (servermsg_StartOf_read a0 u0 u1 u2 u3 u4 u5 u6 u7 u8 u9 u10 u11 u12 q v0 v1 v2 v3 v4 v5 v6 v7 v8 v9 v10 v11 v12 n1 n2 Wa H.out HV.out).mono ?_
 rintro en W1 ⟨rfl, hb⟩
 have HY1 := Lib.hid (blk_below HYa.out hb)
 have HB1 := Lib.hid (HBa.out.trans (hb.mono HBa.out.size))
 clear hb
 have huStart := Try.underlying26
 have huFormat := Try.underlying24
 have hst : rowAt W1 (w.heap.size) 26 13 = true := rowAt_of HY1.out rfl
 have HC := Lib.hid (setRow_heap W1 w.heap.size _ #[.int .i64 v0, .int .i64 v1, .int .i64 v2, .int .i64 v3, .bool v4, .bool v5, .int .i64 v6, .int .i64 v7, .int .i64 v8, .int .i64 v9, .int .i64 v10, .int .i64 v11, .string v12] _ _ HY1.out)
 have HBz := Lib.hid (below_row HB1.out (Nat.le_refl _) #[.int .i64 v0, .int .i64 v1, .int .i64 v2, .int .i64 v3, .bool v4, .bool v5, .int .i64 v6, .int .i64 v7, .int .i64 v8, .int .i64 v9, .int .i64 v10, .int .i64 v11, .string v12])
 go_wp2_with fail
 refine bodyPost_ret (results_ctt rfl _ _ w.heap.size 26 #[.int .i64 v0, .int .i64 v1, .int .i64 v2, .int .i64 v3, .bool v4, .bool v5, .int .i64 v6, .int .i64 v7, .int .i64 v8, .int .i64 v9, .int .i64 v10, .int .i64 v11, .string v12] (0, 0) _ rfl (by with_reducible exact HC.out) Try.underlying26 rfl (by kernel_rfl)) rfl ?_
 exact ⟨rfl, by with_reducible exact HBz.out⟩
end

end Go.Proofs.Ytpackckoblpbfaa.X
