/- What each Go function that these laws use answers: as a Lean function, with the proof that the machine's call comes to it. Written by a program of this session (xprint.py). -/
import Derived.Test.YtpackckoblpbfaaXx0
import Derived.Test.YtpackckoblpbfaaXx16
import Derived.Test.YtpackckoblpbfaaXx17
import Derived.Test.YtpackckoblpbfaaXx18
namespace Go.Proofs.Ytpackckoblpbfaa.X
open Go.RowKit Go.Proofs.YtpackckoblpbfaaW.PrintWords Go.Proofs.YtpackckoblpbfaaW.PrintLast Go.Proofs.YtpackckoblpbfaaW.PrintMore
attribute [local go_sem] max2_int min2_int max_two min_two max_three min_three max_four min_four   -- for this text's walks alone
set_option linter.unusedVariables false
set_option linter.unusedSimpArgs false

/-! ### servermsg_Parse: function 19 -/
section
def msgS (q : RS) : Option ((Int × Int × ByteArray) × RS) := (intS q 1).bind fun p => if p.1 = 0 then (bytesS p.2 1).bind fun b => (intS b.2 2).bind fun n => some ((6, n.1, ⟨#[]⟩), n.2) else if p.1 = 2 then some ((7, 0, ⟨#[]⟩), p.2) else if p.1 = 3 then (bytesS p.2 3).bind fun b => (textS b.2).bind fun t => some ((5, 0, t.1), t.2) else some ((0, 0, ⟨#[]⟩), failS p.2 true 222)
theorem exec_store_msg (ρ : Operand → Value) (d : Option Tmp) (x y : Operand) (ty : TypeId) (ps : String) (af : Array Edge) (gd : Option (Nat × Bool)) (P : Program) (W : World) : (execOp ρ ⟨d, .store 33 x y, ty, ps, af, gd⟩).run P W = stOut P 33 W (ρ x) (ρ y) := rfl
theorem exec_load_msg (ρ : Operand → Value) (d : Option Tmp) (x : Operand) (ty : TypeId) (ps : String) (af : Array Edge) (gd : Option (Nat × Bool)) (P : Program) (W : World) : (execOp ρ ⟨d, .load 33 x, ty, ps, af, gd⟩).run P W = ldOut P 33 W (ρ x) := rfl
theorem store_msg (W : World) (g : Nat) (x0 : Int) (x1 : Bool) (x2 : Int) (x3 : Int) (x4 : Int) (x5 : Int) (x6 : Int) (x7 : Int) (x8 : Int) (x9 : Bool) (x10 : Bool) (x11 : Int) (x12 : Int) (x13 : Int) (x14 : Int) (x15 : Int) (x16 : Int) (A17 : Option Addr) (n17 c17 : Nat) (x18 : ByteArray) (h : rowAt W g 33 19 = true) : stOut Try.prog 33 W (.pointer (some ⟨g, 0, none⟩)) (.agg #[.int .i64 x0, .bool x1, .int .i64 x2, .int .i64 x3, .int .i64 x4, .int .i64 x5, .int .i64 x6, .int .i64 x7, .int .i64 x8, .bool x9, .bool x10, .int .i64 x11, .int .i64 x12, .int .i64 x13, .int .i64 x14, .int .i64 x15, .int .i64 x16, .slice A17 n17 c17, .string x18]) = .ok .skip (W.setRow g #[.int .i64 x0, .bool x1, .int .i64 x2, .int .i64 x3, .int .i64 x4, .int .i64 x5, .int .i64 x6, .int .i64 x7, .int .i64 x8, .bool x9, .bool x10, .int .i64 x11, .int .i64 x12, .int .i64 x13, .int .i64 x14, .int .i64 x15, .int .i64 x16, .slice A17 n17 c17, .string x18]) := stOut_any (by kernel_rfl) W g _ rfl (by simp [Value.oneCell']) h
theorem load_msg (W : World) (g : Nat) (h : rowAt W g 33 19 = true) : ldOut Try.prog 33 W (.pointer (some ⟨g, 0, none⟩)) = .ok (.value (.agg (cellsAt W g))) W := ldOut_any Try.underlying33 rfl (by kernel_rfl) W g h
attribute [local go_sem ↓] exec_store_msg exec_load_msg
attribute [local go_sem] store_msg load_msg
set_option maxHeartbeats 1000000 in
set_option maxRecDepth 100000 in
theorem msg_r (w0 : World) (rb cb : Nat) (q : RS) (v0 v1 : Int) (v2 : ByteArray) (q' : RS) (W : World) (h : Rd w0 rb cb q W) (hf : msgS q = some ((v0, v1, v2), q')) :
  Calls Try.prog 50 #[.pointer (some ⟨rb, 0, none⟩)] W fun en W' => en = .returned (.agg #[.int .i64 v0, .bool false, .int .i64 v1, .int .i64 0, .int .i64 0, .int .i64 0, .int .i64 0, .int .i64 0, .int .i64 0, .bool false, .bool false, .int .i64 0, .int .i64 0, .int .i64 0, .int .i64 0, .int .i64 0, .int .i64 0, .slice none 0 0, .string v2]) ∧ Rd w0 rb cb q' W' ∧ KeptR rb cb W W' := by
 unfold msgS at hf
 obtain ⟨⟨k, q0⟩, e0, hf⟩ := Option.bind_eq_some_iff.1 hf
 have E0 := Lib.hid e0
 have hf : (if k = 0 then _ else _) = _ := hf
 have HF := Lib.hid hf
 clear hf e0
 have HR := Lib.hid h
 obtain ⟨Wa, hWa⟩ : ∃ X, W.alloc (.cells #[.int .i64 0, .bool false, .int .i64 0, .int .i64 0, .int .i64 0, .int .i64 0, .int .i64 0, .int .i64 0, .int .i64 0, .bool false, .bool false, .int .i64 0, .int .i64 0, .int .i64 0, .int .i64 0, .int .i64 0, .int .i64 0, .slice none 0 0, .string ⟨#[]⟩] 33) = X := ⟨_, rfl⟩
 have HYa := Lib.hid (show Wa.heap[W.heap.size]? = some (.cells #[.int .i64 0, .bool false, .int .i64 0, .int .i64 0, .int .i64 0, .int .i64 0, .int .i64 0, .int .i64 0, .int .i64 0, .bool false, .bool false, .int .i64 0, .int .i64 0, .int .i64 0, .int .i64 0, .int .i64 0, .int .i64 0, .slice none 0 0, .string ⟨#[]⟩] 33 (0, 0)) from by rw [← hWa]; exact heap_alloc_new W (.cells #[.int .i64 0, .bool false, .int .i64 0, .int .i64 0, .int .i64 0, .int .i64 0, .int .i64 0, .int .i64 0, .int .i64 0, .bool false, .bool false, .int .i64 0, .int .i64 0, .int .i64 0, .int .i64 0, .int .i64 0, .int .i64 0, .slice none 0 0, .string ⟨#[]⟩] 33))
 have HBa := Lib.hid (show Below W.heap.size W Wa from by rw [← hWa]; exact below_alloc (Below.refl _ _) _)
 have HKa := Lib.hid (KeptR.below (rb := rb) (cb := cb) HBa.out)
 have HRa := Lib.hid (HR.out.below HBa.out)
 have y1 := HRa.out.c0
 have ncb0 : W.heap.size ≠ cb := by have := HR.out.clt; omega
 have nrb0 : W.heap.size ≠ rb := by have := HR.out.rlt; omega
 have HG0 := Lib.hid HR.out.low.size
 clear h
 go_enter Try.func50, Try.ntmps50
 go_wp2_with fail
 try rw [hWa]
 clear hWa
 refine (int_r w0 rb cb q 1 k q0 Wa HRa.out E0.out).mono ?_
 rintro en W1 ⟨rfl, h1, hk⟩
 have HR1 := Lib.hid h1
 have HY1 := Lib.hid (hk.blk HYa.out nrb0 ncb0)
 have HK1 := Lib.hid (HKa.out.trans hk)
 clear h1 hk
 try clear y1
 have y1 := HR1.out.c0
 have hf := HF.out
 by_cases hk0 : k = 0
 ·as_aux_lemma =>
  rw [if_pos hk0] at hf
  subst hk0
  obtain ⟨⟨b, q1⟩, e1, hf⟩ := Option.bind_eq_some_iff.1 hf
  obtain ⟨⟨nn, q2⟩, e2, hf⟩ := Option.bind_eq_some_iff.1 hf
  obtain ⟨⟨rfl, rfl, rfl⟩, rfl⟩ : ((6 : Int) = v0 ∧ nn = v1 ∧ (⟨#[]⟩ : ByteArray) = v2) ∧ q2 = q' := by simpa using hf
  have E1 := Lib.hid e1
  have E2 := Lib.hid e2
  clear hf HF e1 e2
  go_wp2_with fail
  refine (bytes_r w0 rb cb q0 1 b q1 W1 HR1.out E1.out).mono ?_
  rintro en W2 ⟨rfl, h1, hk⟩
  have HR2 := Lib.hid h1
  have HY2 := Lib.hid (hk.blk HY1.out nrb0 ncb0)
  have HK2 := Lib.hid (HK1.out.trans hk)
  clear h1 hk
  try clear y1
  have y1 := HR2.out.c0
  go_wp2_with fail
  refine (int_r w0 rb cb q1 2 nn q2 W2 HR2.out E2.out).mono ?_
  rintro en W3 ⟨rfl, h1, hk⟩
  have HR3 := Lib.hid h1
  have HY3 := Lib.hid (hk.blk HY2.out nrb0 ncb0)
  have HK3 := Lib.hid (HK2.out.trans hk)
  clear h1 hk
  try clear y1
  have y1 := HR3.out.c0
  have hst : rowAt W3 W.heap.size 33 19 = true := rowAt_of HY3.out rfl
  have HC := Lib.hid (setRow_heap W3 W.heap.size _ #[.int .i64 6, .bool false, .int .i64 nn, .int .i64 0, .int .i64 0, .int .i64 0, .int .i64 0, .int .i64 0, .int .i64 0, .bool false, .bool false, .int .i64 0, .int .i64 0, .int .i64 0, .int .i64 0, .int .i64 0, .int .i64 0, .slice none 0 0, .string ⟨#[]⟩] _ _ HY3.out)
  have HRz := Lib.hid (HR3.out.row nrb0 ncb0 HG0.out #[.int .i64 6, .bool false, .int .i64 nn, .int .i64 0, .int .i64 0, .int .i64 0, .int .i64 0, .int .i64 0, .int .i64 0, .bool false, .bool false, .int .i64 0, .int .i64 0, .int .i64 0, .int .i64 0, .int .i64 0, .int .i64 0, .slice none 0 0, .string ⟨#[]⟩])
  have HKz := Lib.hid (show KeptR rb cb W _ from HK3.out.row (Nat.le_refl _) #[.int .i64 6, .bool false, .int .i64 nn, .int .i64 0, .int .i64 0, .int .i64 0, .int .i64 0, .int .i64 0, .int .i64 0, .bool false, .bool false, .int .i64 0, .int .i64 0, .int .i64 0, .int .i64 0, .int .i64 0, .int .i64 0, .slice none 0 0, .string ⟨#[]⟩])
  go_wp2_with fail
  refine bodyPost_ret (results_cell_row rfl _ _ W.heap.size 33 #[.int .i64 6, .bool false, .int .i64 nn, .int .i64 0, .int .i64 0, .int .i64 0, .int .i64 0, .int .i64 0, .int .i64 0, .bool false, .bool false, .int .i64 0, .int .i64 0, .int .i64 0, .int .i64 0, .int .i64 0, .int .i64 0, .slice none 0 0, .string ⟨#[]⟩] (0, 0) _ rfl (by with_reducible exact HC.out) Try.underlying33 rfl (by kernel_rfl)) rfl ?_
  exact ⟨rfl, by with_reducible exact HRz.out, by with_reducible exact HKz.out⟩
 rw [if_neg hk0] at hf
 have hb0 : (k == 0) = false := by simpa using hk0
 clear hk0
 by_cases hk2 : k = 2
 ·as_aux_lemma =>
  rw [if_pos hk2] at hf
  subst hk2
  obtain ⟨⟨rfl, rfl, rfl⟩, rfl⟩ : ((7 : Int) = v0 ∧ (0 : Int) = v1 ∧ (⟨#[]⟩ : ByteArray) = v2) ∧ q0 = q' := by simpa using hf
  clear hf HF
  have hst : rowAt W1 W.heap.size 33 19 = true := rowAt_of HY1.out rfl
  have HC := Lib.hid (setRow_heap W1 W.heap.size _ #[.int .i64 7, .bool false, .int .i64 0, .int .i64 0, .int .i64 0, .int .i64 0, .int .i64 0, .int .i64 0, .int .i64 0, .bool false, .bool false, .int .i64 0, .int .i64 0, .int .i64 0, .int .i64 0, .int .i64 0, .int .i64 0, .slice none 0 0, .string ⟨#[]⟩] _ _ HY1.out)
  have HRz := Lib.hid (HR1.out.row nrb0 ncb0 HG0.out #[.int .i64 7, .bool false, .int .i64 0, .int .i64 0, .int .i64 0, .int .i64 0, .int .i64 0, .int .i64 0, .int .i64 0, .bool false, .bool false, .int .i64 0, .int .i64 0, .int .i64 0, .int .i64 0, .int .i64 0, .int .i64 0, .slice none 0 0, .string ⟨#[]⟩])
  have HKz := Lib.hid (show KeptR rb cb W _ from HK1.out.row (Nat.le_refl _) #[.int .i64 7, .bool false, .int .i64 0, .int .i64 0, .int .i64 0, .int .i64 0, .int .i64 0, .int .i64 0, .int .i64 0, .bool false, .bool false, .int .i64 0, .int .i64 0, .int .i64 0, .int .i64 0, .int .i64 0, .int .i64 0, .slice none 0 0, .string ⟨#[]⟩])
  go_wp2_with fail
  refine bodyPost_ret (results_cell_row rfl _ _ W.heap.size 33 #[.int .i64 7, .bool false, .int .i64 0, .int .i64 0, .int .i64 0, .int .i64 0, .int .i64 0, .int .i64 0, .int .i64 0, .bool false, .bool false, .int .i64 0, .int .i64 0, .int .i64 0, .int .i64 0, .int .i64 0, .int .i64 0, .slice none 0 0, .string ⟨#[]⟩] (0, 0) _ rfl (by with_reducible exact HC.out) Try.underlying33 rfl (by kernel_rfl)) rfl ?_
  exact ⟨rfl, by with_reducible exact HRz.out, by with_reducible exact HKz.out⟩
 rw [if_neg hk2] at hf
 have hb2 : (k == 2) = false := by simpa using hk2
 clear hk2
 by_cases hk3 : k = 3
 ·as_aux_lemma =>
  rw [if_pos hk3] at hf
  subst hk3
  obtain ⟨⟨b, q1⟩, e1, hf⟩ := Option.bind_eq_some_iff.1 hf
  obtain ⟨⟨t, q2⟩, e2, hf⟩ := Option.bind_eq_some_iff.1 hf
  obtain ⟨⟨rfl, rfl, rfl⟩, rfl⟩ : ((5 : Int) = v0 ∧ (0 : Int) = v1 ∧ t = v2) ∧ q2 = q' := by simpa using hf
  have E1 := Lib.hid e1
  have E2 := Lib.hid e2
  clear hf HF e1 e2
  go_wp2_with fail
  refine (bytes_r w0 rb cb q0 3 b q1 W1 HR1.out E1.out).mono ?_
  rintro en W2 ⟨rfl, h1, hk⟩
  have HR2 := Lib.hid h1
  have HY2 := Lib.hid (hk.blk HY1.out nrb0 ncb0)
  have HK2 := Lib.hid (HK1.out.trans hk)
  clear h1 hk
  try clear y1
  have y1 := HR2.out.c0
  go_wp2_with fail
  refine (text_r w0 rb cb q1 t q2 W2 HR2.out E2.out).mono ?_
  rintro en W3 ⟨rfl, h1, hk⟩
  have HR3 := Lib.hid h1
  have HY3 := Lib.hid (hk.blk HY2.out nrb0 ncb0)
  have HK3 := Lib.hid (HK2.out.trans hk)
  clear h1 hk
  try clear y1
  have y1 := HR3.out.c0
  have hst : rowAt W3 W.heap.size 33 19 = true := rowAt_of HY3.out rfl
  have HC := Lib.hid (setRow_heap W3 W.heap.size _ #[.int .i64 5, .bool false, .int .i64 0, .int .i64 0, .int .i64 0, .int .i64 0, .int .i64 0, .int .i64 0, .int .i64 0, .bool false, .bool false, .int .i64 0, .int .i64 0, .int .i64 0, .int .i64 0, .int .i64 0, .int .i64 0, .slice none 0 0, .string t] _ _ HY3.out)
  have HRz := Lib.hid (HR3.out.row nrb0 ncb0 HG0.out #[.int .i64 5, .bool false, .int .i64 0, .int .i64 0, .int .i64 0, .int .i64 0, .int .i64 0, .int .i64 0, .int .i64 0, .bool false, .bool false, .int .i64 0, .int .i64 0, .int .i64 0, .int .i64 0, .int .i64 0, .int .i64 0, .slice none 0 0, .string t])
  have HKz := Lib.hid (show KeptR rb cb W _ from HK3.out.row (Nat.le_refl _) #[.int .i64 5, .bool false, .int .i64 0, .int .i64 0, .int .i64 0, .int .i64 0, .int .i64 0, .int .i64 0, .int .i64 0, .bool false, .bool false, .int .i64 0, .int .i64 0, .int .i64 0, .int .i64 0, .int .i64 0, .int .i64 0, .slice none 0 0, .string t])
  go_wp2_with fail
  refine bodyPost_ret (results_cell_row rfl _ _ W.heap.size 33 #[.int .i64 5, .bool false, .int .i64 0, .int .i64 0, .int .i64 0, .int .i64 0, .int .i64 0, .int .i64 0, .int .i64 0, .bool false, .bool false, .int .i64 0, .int .i64 0, .int .i64 0, .int .i64 0, .int .i64 0, .int .i64 0, .slice none 0 0, .string t] (0, 0) _ rfl (by with_reducible exact HC.out) Try.underlying33 rfl (by kernel_rfl)) rfl ?_
  exact ⟨rfl, by with_reducible exact HRz.out, by with_reducible exact HKz.out⟩
 rw [if_neg hk3] at hf
 have hb3 : (k == 3) = false := by simpa using hk3
 clear hk3
 obtain ⟨⟨rfl, rfl, rfl⟩, rfl⟩ : ((0 : Int) = v0 ∧ (0 : Int) = v1 ∧ (⟨#[]⟩ : ByteArray) = v2) ∧ failS q0 true 222 = q' := by simpa using hf
 clear hf HF
 go_wp2_with fail
 refine (fail_r w0 rb cb q0 true 222 W1 HR1.out).mono ?_
 rintro en W2 ⟨rfl, h1, hk⟩
 have HR2 := Lib.hid h1
 have HY2 := Lib.hid (hk.blk HY1.out nrb0 ncb0)
 have HK2 := Lib.hid (HK1.out.trans hk)
 clear h1 hk
 try clear y1
 have y1 := HR2.out.c0
 have hst : rowAt W2 W.heap.size 33 19 = true := rowAt_of HY2.out rfl
 have HC := Lib.hid (setRow_heap W2 W.heap.size _ #[.int .i64 0, .bool false, .int .i64 0, .int .i64 0, .int .i64 0, .int .i64 0, .int .i64 0, .int .i64 0, .int .i64 0, .bool false, .bool false, .int .i64 0, .int .i64 0, .int .i64 0, .int .i64 0, .int .i64 0, .int .i64 0, .slice none 0 0, .string ⟨#[]⟩] _ _ HY2.out)
 have HRz := Lib.hid (HR2.out.row nrb0 ncb0 HG0.out #[.int .i64 0, .bool false, .int .i64 0, .int .i64 0, .int .i64 0, .int .i64 0, .int .i64 0, .int .i64 0, .int .i64 0, .bool false, .bool false, .int .i64 0, .int .i64 0, .int .i64 0, .int .i64 0, .int .i64 0, .int .i64 0, .slice none 0 0, .string ⟨#[]⟩])
 have HKz := Lib.hid (show KeptR rb cb W _ from HK2.out.row (Nat.le_refl _) #[.int .i64 0, .bool false, .int .i64 0, .int .i64 0, .int .i64 0, .int .i64 0, .int .i64 0, .int .i64 0, .int .i64 0, .bool false, .bool false, .int .i64 0, .int .i64 0, .int .i64 0, .int .i64 0, .int .i64 0, .int .i64 0, .slice none 0 0, .string ⟨#[]⟩])
 go_wp2_with fail
 refine bodyPost_ret (results_cell_row rfl _ _ W.heap.size 33 #[.int .i64 0, .bool false, .int .i64 0, .int .i64 0, .int .i64 0, .int .i64 0, .int .i64 0, .int .i64 0, .int .i64 0, .bool false, .bool false, .int .i64 0, .int .i64 0, .int .i64 0, .int .i64 0, .int .i64 0, .int .i64 0, .slice none 0 0, .string ⟨#[]⟩] (0, 0) _ rfl (by with_reducible exact HC.out) Try.underlying33 rfl (by kernel_rfl)) rfl ?_
 exact ⟨rfl, by with_reducible exact HRz.out, by with_reducible exact HKz.out⟩
set_option maxHeartbeats 4000000 in
set_option maxRecDepth 100000 in
theorem servermsg_Parse_read (s : ByteArray) (u0 : Int) (u1 : Int) (u2 : ByteArray) (q : RS) (v0 : Int) (v1 : Int) (v2 : ByteArray) (n1 n2 : Int) (w : World) (hf : msgS ⟨s, 0, 0, 0⟩ = some ((u0, u1, u2), q)) (hv : (if q.re = 0 ∧ q.ce = 0 then some ((u0, u1, u2), q.at_, (0 : Int)) else some (((0 : Int), (0 : Int), (⟨#[]⟩ : ByteArray)), 0, if q.re = 0 then q.ce else q.re)) = some ((v0, v1, v2), n1, n2)) :
  Calls Try.prog 49 #[.string s, .func (.func 50) #[] #[]] w fun e w' => e = .returned (.tuple #[.agg #[.int .i64 v0, .bool false, .int .i64 v1, .int .i64 0, .int .i64 0, .int .i64 0, .int .i64 0, .int .i64 0, .int .i64 0, .bool false, .bool false, .int .i64 0, .int .i64 0, .int .i64 0, .int .i64 0, .int .i64 0, .int .i64 0, .slice none 0 0, .string v2], .int .i64 n1, .int .i64 n2]) ∧ Below w.heap.size w w' := by
 have HF := Lib.hid hf
 have HV := Lib.hid hv
 clear hf hv
 obtain ⟨Wa, hWa⟩ : ∃ X, w.alloc (.cells #[.int .i64 0, .bool false, .int .i64 0, .int .i64 0, .int .i64 0, .int .i64 0, .int .i64 0, .int .i64 0, .int .i64 0, .bool false, .bool false, .int .i64 0, .int .i64 0, .int .i64 0, .int .i64 0, .int .i64 0, .int .i64 0, .slice none 0 0, .string ⟨#[]⟩] 33) = X := ⟨_, rfl⟩
 have HYa := Lib.hid (show Wa.heap[w.heap.size]? = some (.cells #[.int .i64 0, .bool false, .int .i64 0, .int .i64 0, .int .i64 0, .int .i64 0, .int .i64 0, .int .i64 0, .int .i64 0, .bool false, .bool false, .int .i64 0, .int .i64 0, .int .i64 0, .int .i64 0, .int .i64 0, .int .i64 0, .slice none 0 0, .string ⟨#[]⟩] 33 (0, 0)) from by rw [← hWa]; exact heap_alloc_new w (.cells #[.int .i64 0, .bool false, .int .i64 0, .int .i64 0, .int .i64 0, .int .i64 0, .int .i64 0, .int .i64 0, .int .i64 0, .bool false, .bool false, .int .i64 0, .int .i64 0, .int .i64 0, .int .i64 0, .int .i64 0, .int .i64 0, .slice none 0 0, .string ⟨#[]⟩] 33))
 have HBa := Lib.hid (show Below w.heap.size w Wa from by rw [← hWa]; exact below_alloc (Below.refl _ _) _)
 have HLa := Lib.hid (show w.heap.size < Wa.heap.size from by rw [← hWa]; simp)
 go_enter Try.func49, Try.ntmps49
 go_wp2_with fail
 try rw [hWa]
 clear hWa
 refine (octets_New.calls s s 0 0 w Wa HBa.out rfl).mono ?_
 rintro en w1 ⟨g, rfl, hi, hb, hb2⟩
 have HY1 := Lib.hid (blk_below HYa.out hb2)
 have hg1 : w.heap.size ≠ g := fun e => by have h1 := HY1.out; rw [e, hi.1] at h1; simp at h1
 have hrb : w.heap.size < w1.heap.size := blk_lt HY1.out
 obtain ⟨W1, hW1⟩ : ∃ X, w1.alloc (.cells #[.pointer (some ⟨g, 0, none⟩), .int .i64 0] 101) = X := ⟨_, rfl⟩
 have HR := Lib.hid (show Rd w w1.heap.size g ⟨s, 0, 0, 0⟩ W1 from by rw [← hW1]; exact rd_new hi hb)
 have HY2 := Lib.hid (show W1.heap[w.heap.size]? = some (.cells #[.int .i64 0, .bool false, .int .i64 0, .int .i64 0, .int .i64 0, .int .i64 0, .int .i64 0, .int .i64 0, .int .i64 0, .bool false, .bool false, .int .i64 0, .int .i64 0, .int .i64 0, .int .i64 0, .int .i64 0, .int .i64 0, .slice none 0 0, .string ⟨#[]⟩] 33 (0, 0)) from by rw [← hW1]; exact blk_below HY1.out (below_alloc (Below.refl _ _) _))
 clear hi hb hb2
 go_wp2_with fail
 try rw [hW1]
 clear hW1
 obtain ⟨rb, hrbe⟩ : ∃ x, w1.heap.size = x := ⟨_, rfl⟩
 rw [hrbe] at HR hrb ⊢
 clear hrbe
 refine (msg_r w rb g ⟨s, 0, 0, 0⟩ u0 u1 u2 q W1 HR.out HF.out).mono ?_
 rintro en W2 ⟨rfl, h1, hk⟩
 have y0 := h1.c0
 have y1 := h1.c1
 have HR2 := Lib.hid h1
 have HY3 := Lib.hid (hk.blk HY2.out (by omega) hg1)
 have hv := HV.out
 clear h1 hk
 have huMsg := Try.underlying33
 have hl1 := HR2.out.rlt
 have hl2 := HR2.out.clt
 have hl3 := blk_lt HY3.out
 have hne1 : rb ≠ W2.heap.size := by omega
 have hne2 : w.heap.size ≠ W2.heap.size := by omega
 have HXw := Lib.hid (heap_alloc_new W2 (.cells #[.int .i64 0, .bool false, .int .i64 0, .int .i64 0, .int .i64 0, .int .i64 0, .int .i64 0, .int .i64 0, .int .i64 0, .bool false, .bool false, .int .i64 0, .int .i64 0, .int .i64 0, .int .i64 0, .int .i64 0, .int .i64 0, .slice none 0 0, .string ⟨#[]⟩] 33))
 have hsta : rowAt (W2.alloc (.cells #[.int .i64 0, .bool false, .int .i64 0, .int .i64 0, .int .i64 0, .int .i64 0, .int .i64 0, .int .i64 0, .int .i64 0, .bool false, .bool false, .int .i64 0, .int .i64 0, .int .i64 0, .int .i64 0, .int .i64 0, .int .i64 0, .slice none 0 0, .string ⟨#[]⟩] 33)) (W2.heap.size) 33 19 = true := rowAt_of HXw.out rfl
 obtain ⟨Wb, hWb⟩ : ∃ X, (W2.alloc (.cells #[.int .i64 0, .bool false, .int .i64 0, .int .i64 0, .int .i64 0, .int .i64 0, .int .i64 0, .int .i64 0, .int .i64 0, .bool false, .bool false, .int .i64 0, .int .i64 0, .int .i64 0, .int .i64 0, .int .i64 0, .int .i64 0, .slice none 0 0, .string ⟨#[]⟩] 33)).setRow W2.heap.size #[.int .i64 u0, .bool false, .int .i64 u1, .int .i64 0, .int .i64 0, .int .i64 0, .int .i64 0, .int .i64 0, .int .i64 0, .bool false, .bool false, .int .i64 0, .int .i64 0, .int .i64 0, .int .i64 0, .int .i64 0, .int .i64 0, .slice none 0 0, .string u2] = X := ⟨_, rfl⟩
 have HRb := Lib.hid (show Rd w rb g q Wb from by rw [← hWb]; exact Rd.row (HR2.out.below (below_alloc (Below.refl _ _) _)) (by omega) (by have := HR2.out.clt; omega) (by have := HR2.out.low.size; omega) _)
 have HXb := Lib.hid (show Wb.heap[W2.heap.size]? = some (.cells #[.int .i64 u0, .bool false, .int .i64 u1, .int .i64 0, .int .i64 0, .int .i64 0, .int .i64 0, .int .i64 0, .int .i64 0, .bool false, .bool false, .int .i64 0, .int .i64 0, .int .i64 0, .int .i64 0, .int .i64 0, .int .i64 0, .slice none 0 0, .string u2] 33 (0, 0)) from by rw [← hWb]; exact setRow_heap _ _ _ _ _ _ HXw.out)
 have HYb := Lib.hid (show Wb.heap[w.heap.size]? = some (.cells #[.int .i64 0, .bool false, .int .i64 0, .int .i64 0, .int .i64 0, .int .i64 0, .int .i64 0, .int .i64 0, .int .i64 0, .bool false, .bool false, .int .i64 0, .int .i64 0, .int .i64 0, .int .i64 0, .int .i64 0, .int .i64 0, .slice none 0 0, .string ⟨#[]⟩] 33 (0, 0)) from by rw [← hWb]; exact (setRow_other _ _ _ _ hne2).trans (blk_below HY3.out (below_alloc (Below.refl _ _) _)))
 clear y0 y1
 have y0 := HRb.out.c0
 have y1 := HRb.out.c1
 have HG0 := Lib.hid (Nat.le_refl w.heap.size)
 have nrb0 : w.heap.size ≠ rb := by omega
 have ncb0 : w.heap.size ≠ g := hg1
 by_cases hr : q.re = 0
 ·have hrb1 : (q.re == 0) = true := by simpa using hr
  by_cases hc : q.ce = 0
  ·rw [if_pos ⟨hr, hc⟩] at hv
   obtain ⟨⟨rfl, rfl, rfl⟩, rfl, rfl⟩ : (u0 = v0 ∧ u1 = v1 ∧ u2 = v2) ∧ q.at_ = n1 ∧ (0 : Int) = n2 := by simpa using hv
   have hcb : (q.ce != 0) = false := by simpa using hc
   clear hr hc hv HV
   go_wp2_with fail
   try rw [hWb]
   clear hWb
   refine (err_q w rb g q Wb HRb.out).mono ?_
   rintro en W3 ⟨rfl, hw⟩
   rw [hw]
   clear hw
   have hld : rowAt Wb W2.heap.size 33 19 = true := rowAt_of HXb.out rfl
   have hldc : cellsAt Wb W2.heap.size = #[.int .i64 u0, .bool false, .int .i64 u1, .int .i64 0, .int .i64 0, .int .i64 0, .int .i64 0, .int .i64 0, .int .i64 0, .bool false, .bool false, .int .i64 0, .int .i64 0, .int .i64 0, .int .i64 0, .int .i64 0, .int .i64 0, .slice none 0 0, .string u2] := cellsAt_of HXb.out
   have hld2 : rowAt Wb.drew W2.heap.size 33 19 = true := rowAt_of (blk_drew HXb.out) rfl
   have hld2c : cellsAt Wb.drew W2.heap.size = #[.int .i64 u0, .bool false, .int .i64 u1, .int .i64 0, .int .i64 0, .int .i64 0, .int .i64 0, .int .i64 0, .int .i64 0, .bool false, .bool false, .int .i64 0, .int .i64 0, .int .i64 0, .int .i64 0, .int .i64 0, .int .i64 0, .slice none 0 0, .string u2] := cellsAt_of (blk_drew HXb.out)
   clear hsta
   have hst : rowAt Wb (w.heap.size) 33 19 = true := rowAt_of HYb.out rfl
   have hst2 : rowAt Wb.drew (w.heap.size) 33 19 = true := rowAt_of (blk_drew HYb.out) rfl
   go_wp2_with fail
   have HC := Lib.hid (setRow_heap Wb w.heap.size _ #[.int .i64 u0, .bool false, .int .i64 u1, .int .i64 0, .int .i64 0, .int .i64 0, .int .i64 0, .int .i64 0, .int .i64 0, .bool false, .bool false, .int .i64 0, .int .i64 0, .int .i64 0, .int .i64 0, .int .i64 0, .int .i64 0, .slice none 0 0, .string u2] _ _ HYb.out)
   have HC2 := Lib.hid (setRow_heap Wb.drew w.heap.size _ #[.int .i64 u0, .bool false, .int .i64 u1, .int .i64 0, .int .i64 0, .int .i64 0, .int .i64 0, .int .i64 0, .int .i64 0, .bool false, .bool false, .int .i64 0, .int .i64 0, .int .i64 0, .int .i64 0, .int .i64 0, .int .i64 0, .slice none 0 0, .string u2] _ _ (blk_drew HYb.out))
   have HRz := Lib.hid (Rd.row HRb.out nrb0 ncb0 HG0.out #[.int .i64 u0, .bool false, .int .i64 u1, .int .i64 0, .int .i64 0, .int .i64 0, .int .i64 0, .int .i64 0, .int .i64 0, .bool false, .bool false, .int .i64 0, .int .i64 0, .int .i64 0, .int .i64 0, .int .i64 0, .int .i64 0, .slice none 0 0, .string u2])
   have HRz2 := Lib.hid (Rd.row HRb.out.drew nrb0 ncb0 HG0.out #[.int .i64 u0, .bool false, .int .i64 u1, .int .i64 0, .int .i64 0, .int .i64 0, .int .i64 0, .int .i64 0, .int .i64 0, .bool false, .bool false, .int .i64 0, .int .i64 0, .int .i64 0, .int .i64 0, .int .i64 0, .int .i64 0, .slice none 0 0, .string u2])
   clear hld hld2 hldc hld2c hst hst2 y1
   have hd1 : rowAt Wb.drew W2.heap.size 33 19 = true := rowAt_of (blk_drew HXb.out) rfl
   have hd2 : cellsAt Wb.drew W2.heap.size = #[.int .i64 u0, .bool false, .int .i64 u1, .int .i64 0, .int .i64 0, .int .i64 0, .int .i64 0, .int .i64 0, .int .i64 0, .bool false, .bool false, .int .i64 0, .int .i64 0, .int .i64 0, .int .i64 0, .int .i64 0, .int .i64 0, .slice none 0 0, .string u2] := cellsAt_of (blk_drew HXb.out)
   have hd3 : Wb.drew.cell? ⟨rb, 0, none⟩ = some (.pointer (some ⟨g, 0, none⟩)) := HRb.out.drew.c0
   go_still_tail 6, (by kernel_rfl)
   still_call (at_q w rb g q _ HRb.out.drew)
   try refine wpStill_nil ?_
   change wpList _ _ _ _ _ Wb.drew
   clear hd1 hd2 hd3
   have hst : rowAt Wb.drew w.heap.size 33 19 = true := rowAt_of (blk_drew HYb.out) rfl
   go_wp2_with fail
   all_goals (refine bodyPost_ret (results_ctt rfl _ _ w.heap.size 33 #[.int .i64 u0, .bool false, .int .i64 u1, .int .i64 0, .int .i64 0, .int .i64 0, .int .i64 0, .int .i64 0, .int .i64 0, .bool false, .bool false, .int .i64 0, .int .i64 0, .int .i64 0, .int .i64 0, .int .i64 0, .int .i64 0, .slice none 0 0, .string u2] (0, 0) _ rfl (by first | with_reducible exact HC.out | with_reducible exact blk_drew HC.out | with_reducible exact HC2.out | with_reducible exact blk_drew HC2.out) Try.underlying33 rfl (by kernel_rfl)) rfl ?_; exact ⟨rfl, by first | with_reducible exact HRz.out.low | with_reducible exact Below.drew HRz.out.low | with_reducible exact HRz2.out.low | with_reducible exact Below.drew HRz2.out.low⟩)
  ·rw [if_neg (fun h => hc h.2), if_pos hr] at hv
   obtain ⟨⟨rfl, rfl, rfl⟩, rfl, rfl⟩ : ((0 : Int) = v0 ∧ (0 : Int) = v1 ∧ (⟨#[]⟩ : ByteArray) = v2) ∧ (0 : Int) = n1 ∧ q.ce = n2 := by simpa using hv
   have hcb : (q.ce != 0) = true := by simpa using hc
   clear hr hc hv HV
   go_wp2_with fail
   try rw [hWb]
   clear hWb
   refine (err_q w rb g q Wb HRb.out).mono ?_
   rintro en W3 ⟨rfl, hw⟩
   rw [hw]
   clear hw
   obtain ⟨Wc, hWc⟩ : ∃ X, Wb.alloc (.cells #[.int .i64 0, .bool false, .int .i64 0, .int .i64 0, .int .i64 0, .int .i64 0, .int .i64 0, .int .i64 0, .int .i64 0, .bool false, .bool false, .int .i64 0, .int .i64 0, .int .i64 0, .int .i64 0, .int .i64 0, .int .i64 0, .slice none 0 0, .string ⟨#[]⟩] 33) = X := ⟨_, rfl⟩
   have HYc := Lib.hid (show Wc.heap[w.heap.size]? = some (.cells #[.int .i64 0, .bool false, .int .i64 0, .int .i64 0, .int .i64 0, .int .i64 0, .int .i64 0, .int .i64 0, .int .i64 0, .bool false, .bool false, .int .i64 0, .int .i64 0, .int .i64 0, .int .i64 0, .int .i64 0, .int .i64 0, .slice none 0 0, .string ⟨#[]⟩] 33 (0, 0)) from by rw [← hWc]; exact blk_below HYb.out (below_alloc (Below.refl _ _) _))
   have HXc := Lib.hid (show Wc.heap[Wb.heap.size]? = some (.cells #[.int .i64 0, .bool false, .int .i64 0, .int .i64 0, .int .i64 0, .int .i64 0, .int .i64 0, .int .i64 0, .int .i64 0, .bool false, .bool false, .int .i64 0, .int .i64 0, .int .i64 0, .int .i64 0, .int .i64 0, .int .i64 0, .slice none 0 0, .string ⟨#[]⟩] 33 (0, 0)) from by rw [← hWc]; exact heap_alloc_new Wb _)
   have hld : rowAt Wc Wb.heap.size 33 19 = true := rowAt_of HXc.out rfl
   have hldc : cellsAt Wc Wb.heap.size = #[.int .i64 0, .bool false, .int .i64 0, .int .i64 0, .int .i64 0, .int .i64 0, .int .i64 0, .int .i64 0, .int .i64 0, .bool false, .bool false, .int .i64 0, .int .i64 0, .int .i64 0, .int .i64 0, .int .i64 0, .int .i64 0, .slice none 0 0, .string ⟨#[]⟩] := cellsAt_of HXc.out
   have HRc := Lib.hid (show Rd w rb g q Wc from by rw [← hWc]; exact HRb.out.below (below_alloc (Below.refl _ _) _))
   have HC := Lib.hid (setRow_heap Wc w.heap.size _ #[.int .i64 0, .bool false, .int .i64 0, .int .i64 0, .int .i64 0, .int .i64 0, .int .i64 0, .int .i64 0, .int .i64 0, .bool false, .bool false, .int .i64 0, .int .i64 0, .int .i64 0, .int .i64 0, .int .i64 0, .int .i64 0, .slice none 0 0, .string ⟨#[]⟩] _ _ HYc.out)
   have HRz := Lib.hid (Rd.row HRc.out nrb0 ncb0 HG0.out #[.int .i64 0, .bool false, .int .i64 0, .int .i64 0, .int .i64 0, .int .i64 0, .int .i64 0, .int .i64 0, .int .i64 0, .bool false, .bool false, .int .i64 0, .int .i64 0, .int .i64 0, .int .i64 0, .int .i64 0, .int .i64 0, .slice none 0 0, .string ⟨#[]⟩])
   have hst : rowAt Wc (w.heap.size) 33 19 = true := rowAt_of HYc.out rfl
   go_wp2_with fail
   refine bodyPost_ret (results_ctt rfl _ _ w.heap.size 33 #[.int .i64 0, .bool false, .int .i64 0, .int .i64 0, .int .i64 0, .int .i64 0, .int .i64 0, .int .i64 0, .int .i64 0, .bool false, .bool false, .int .i64 0, .int .i64 0, .int .i64 0, .int .i64 0, .int .i64 0, .int .i64 0, .slice none 0 0, .string ⟨#[]⟩] (0, 0) _ rfl (by first | with_reducible exact HC.out | with_reducible exact blk_drew HC.out) Try.underlying33 rfl (by kernel_rfl)) rfl ?_
   exact ⟨rfl, by first | with_reducible exact HRz.out.low | with_reducible exact Below.drew HRz.out.low⟩
 ·rw [if_neg (fun h => hr h.1), if_neg hr] at hv
  obtain ⟨⟨rfl, rfl, rfl⟩, rfl, rfl⟩ : ((0 : Int) = v0 ∧ (0 : Int) = v1 ∧ (⟨#[]⟩ : ByteArray) = v2) ∧ (0 : Int) = n1 ∧ q.re = n2 := by simpa using hv
  have hrb1 : (q.re == 0) = false := by simpa using hr
  have hrb2 : (q.re != 0) = true := by simpa using hr
  clear hr hv HV
  obtain ⟨Wc, hWc⟩ : ∃ X, Wb.alloc (.cells #[.int .i64 0, .bool false, .int .i64 0, .int .i64 0, .int .i64 0, .int .i64 0, .int .i64 0, .int .i64 0, .int .i64 0, .bool false, .bool false, .int .i64 0, .int .i64 0, .int .i64 0, .int .i64 0, .int .i64 0, .int .i64 0, .slice none 0 0, .string ⟨#[]⟩] 33) = X := ⟨_, rfl⟩
  have HYc := Lib.hid (show Wc.heap[w.heap.size]? = some (.cells #[.int .i64 0, .bool false, .int .i64 0, .int .i64 0, .int .i64 0, .int .i64 0, .int .i64 0, .int .i64 0, .int .i64 0, .bool false, .bool false, .int .i64 0, .int .i64 0, .int .i64 0, .int .i64 0, .int .i64 0, .int .i64 0, .slice none 0 0, .string ⟨#[]⟩] 33 (0, 0)) from by rw [← hWc]; exact blk_below HYb.out (below_alloc (Below.refl _ _) _))
  have HXc := Lib.hid (show Wc.heap[Wb.heap.size]? = some (.cells #[.int .i64 0, .bool false, .int .i64 0, .int .i64 0, .int .i64 0, .int .i64 0, .int .i64 0, .int .i64 0, .int .i64 0, .bool false, .bool false, .int .i64 0, .int .i64 0, .int .i64 0, .int .i64 0, .int .i64 0, .int .i64 0, .slice none 0 0, .string ⟨#[]⟩] 33 (0, 0)) from by rw [← hWc]; exact heap_alloc_new Wb _)
  have hld : rowAt Wc Wb.heap.size 33 19 = true := rowAt_of HXc.out rfl
  have hldc : cellsAt Wc Wb.heap.size = #[.int .i64 0, .bool false, .int .i64 0, .int .i64 0, .int .i64 0, .int .i64 0, .int .i64 0, .int .i64 0, .int .i64 0, .bool false, .bool false, .int .i64 0, .int .i64 0, .int .i64 0, .int .i64 0, .int .i64 0, .int .i64 0, .slice none 0 0, .string ⟨#[]⟩] := cellsAt_of HXc.out
  have HRc := Lib.hid (show Rd w rb g q Wc from by rw [← hWc]; exact HRb.out.below (below_alloc (Below.refl _ _) _))
  have HC := Lib.hid (setRow_heap Wc w.heap.size _ #[.int .i64 0, .bool false, .int .i64 0, .int .i64 0, .int .i64 0, .int .i64 0, .int .i64 0, .int .i64 0, .int .i64 0, .bool false, .bool false, .int .i64 0, .int .i64 0, .int .i64 0, .int .i64 0, .int .i64 0, .int .i64 0, .slice none 0 0, .string ⟨#[]⟩] _ _ HYc.out)
  have HRz := Lib.hid (Rd.row HRc.out nrb0 ncb0 HG0.out #[.int .i64 0, .bool false, .int .i64 0, .int .i64 0, .int .i64 0, .int .i64 0, .int .i64 0, .int .i64 0, .int .i64 0, .bool false, .bool false, .int .i64 0, .int .i64 0, .int .i64 0, .int .i64 0, .int .i64 0, .int .i64 0, .slice none 0 0, .string ⟨#[]⟩])
  have hst : rowAt Wc (w.heap.size) 33 19 = true := rowAt_of HYc.out rfl
  go_wp2_with fail
  refine bodyPost_ret (results_ctt rfl _ _ w.heap.size 33 #[.int .i64 0, .bool false, .int .i64 0, .int .i64 0, .int .i64 0, .int .i64 0, .int .i64 0, .int .i64 0, .int .i64 0, .bool false, .bool false, .int .i64 0, .int .i64 0, .int .i64 0, .int .i64 0, .int .i64 0, .int .i64 0, .slice none 0 0, .string ⟨#[]⟩] (0, 0) _ rfl (by first | with_reducible exact HC.out | with_reducible exact blk_drew HC.out) Try.underlying33 rfl (by kernel_rfl)) rfl ?_
  exact ⟨rfl, by first | with_reducible exact HRz.out.low | with_reducible exact Below.drew HRz.out.low⟩
def servermsg_Parse.f (a0 : ByteArray) : Option (Int × Bool × Int × Int × Int × Int × Int × Int × Int × Bool × Bool × Int × Int × Int × Int × Int × Int × List Int × ByteArray × Int × Int) := (msgS ⟨a0, 0, 0, 0⟩).bind fun p => if p.2.re = 0 ∧ p.2.ce = 0 then some (p.1.1, false, p.1.2.1, 0, 0, 0, 0, 0, 0, false, false, 0, 0, 0, 0, 0, 0, [], p.1.2.2, p.2.at_, 0) else some (0, false, 0, 0, 0, 0, 0, 0, 0, false, false, 0, 0, 0, 0, 0, 0, [], ⟨#[]⟩, 0, if p.2.re = 0 then p.2.ce else p.2.re)
set_option maxHeartbeats 1000000 in
set_option maxRecDepth 100000 in
theorem servermsg_Parse.calls (a0 : ByteArray) (r1 : Int) (r2 : Bool) (r3 : Int) (r4 : Int) (r5 : Int) (r6 : Int) (r7 : Int) (r8 : Int) (r9 : Int) (r10 : Bool) (r11 : Bool) (r12 : Int) (r13 : Int) (r14 : Int) (r15 : Int) (r16 : Int) (r17 : Int) (r18 : List Int) (r19 : ByteArray) (r20 r21 : Int) (w : World) (h : servermsg_Parse.f a0 = some (r1, r2, r3, r4, r5, r6, r7, r8, r9, r10, r11, r12, r13, r14, r15, r16, r17, r18, r19, r20, r21)) :
  Calls Try.prog 19 #[.string a0] w fun e w' => ∃ v17_ : Value, e = .returned (.tuple #[.agg #[.int .i64 r1, .bool r2, .int .i64 r3, .int .i64 r4, .int .i64 r5, .int .i64 r6, .int .i64 r7, .int .i64 r8, .int .i64 r9, .bool r10, .bool r11, .int .i64 r12, .int .i64 r13, .int .i64 r14, .int .i64 r15, .int .i64 r16, .int .i64 r17, v17_, .string r19], .int .i64 r20, .int .i64 r21]) ∧ Kd.R (Kd.int .i64) 3 w' w.heap.size (fun _ => True) v17_ r18 ∧ Below w.heap.size w w' := by
 unfold servermsg_Parse.f at h
 obtain ⟨⟨⟨u0, u1, u2⟩, q⟩, e1, h⟩ := Option.bind_eq_some_iff.1 h
 have H := Lib.hid e1
 have HV : ∃ (v0 : Int) (v1 : Int) (v2 : ByteArray) (n1 n2 : Int), (if q.re = 0 ∧ q.ce = 0 then some ((u0, u1, u2), q.at_, (0 : Int)) else some (((0 : Int), (0 : Int), (⟨#[]⟩ : ByteArray)), 0, if q.re = 0 then q.ce else q.re)) = some ((v0, v1, v2), n1, n2) ∧ v0 = r1 ∧ false = r2 ∧ v1 = r3 ∧ (0 : Int) = r4 ∧ (0 : Int) = r5 ∧ (0 : Int) = r6 ∧ (0 : Int) = r7 ∧ (0 : Int) = r8 ∧ (0 : Int) = r9 ∧ false = r10 ∧ false = r11 ∧ (0 : Int) = r12 ∧ (0 : Int) = r13 ∧ (0 : Int) = r14 ∧ (0 : Int) = r15 ∧ (0 : Int) = r16 ∧ (0 : Int) = r17 ∧ ([] : List Int) = r18 ∧ v2 = r19 ∧ n1 = r20 ∧ n2 = r21 := by
  have h : (if q.re = 0 ∧ q.ce = 0 then some (u0, false, u1, (0 : Int), (0 : Int), (0 : Int), (0 : Int), (0 : Int), (0 : Int), false, false, (0 : Int), (0 : Int), (0 : Int), (0 : Int), (0 : Int), (0 : Int), ([] : List Int), u2, q.at_, (0 : Int)) else some (0, false, 0, 0, 0, 0, 0, 0, 0, false, false, 0, 0, 0, 0, 0, 0, [], ⟨#[]⟩, 0, if q.re = 0 then q.ce else q.re)) = some (r1, r2, r3, r4, r5, r6, r7, r8, r9, r10, r11, r12, r13, r14, r15, r16, r17, r18, r19, r20, r21) := h
  by_cases hc : q.re = 0 ∧ q.ce = 0
  ·rw [if_pos hc] at h ⊢; exact ⟨u0, u1, u2, _, _, rfl, by simpa [and_assoc] using h⟩
  ·rw [if_neg hc] at h ⊢; exact ⟨0, 0, ⟨#[]⟩, _, _, rfl, by simpa [and_assoc] using h⟩
 obtain ⟨v0, v1, v2, n1, n2, hv, rfl, rfl, rfl, rfl, rfl, rfl, rfl, rfl, rfl, rfl, rfl, rfl, rfl, rfl, rfl, rfl, rfl, rfl, rfl, rfl, rfl⟩ := HV
 have HV := Lib.hid hv
 clear h e1 hv
 have HY0 := Lib.hid (heap_alloc_new w (.cells #[.int .i64 0, .bool false, .int .i64 0, .int .i64 0, .int .i64 0, .int .i64 0, .int .i64 0, .int .i64 0, .int .i64 0, .bool false, .bool false, .int .i64 0, .int .i64 0, .int .i64 0, .int .i64 0, .int .i64 0, .int .i64 0, .slice none 0 0, .string ⟨#[]⟩] 33))
 obtain ⟨Wa, hWa⟩ : ∃ X, w.alloc (.cells #[.int .i64 0, .bool false, .int .i64 0, .int .i64 0, .int .i64 0, .int .i64 0, .int .i64 0, .int .i64 0, .int .i64 0, .bool false, .bool false, .int .i64 0, .int .i64 0, .int .i64 0, .int .i64 0, .int .i64 0, .int .i64 0, .slice none 0 0, .string ⟨#[]⟩] 33) = X := ⟨_, rfl⟩
 have HYa := Lib.hid (show Wa.heap[w.heap.size]? = some (.cells #[.int .i64 0, .bool false, .int .i64 0, .int .i64 0, .int .i64 0, .int .i64 0, .int .i64 0, .int .i64 0, .int .i64 0, .bool false, .bool false, .int .i64 0, .int .i64 0, .int .i64 0, .int .i64 0, .int .i64 0, .int .i64 0, .slice none 0 0, .string ⟨#[]⟩] 33 (0, 0)) from by rw [← hWa]; exact HY0.out)
 have HBa := Lib.hid (show Below w.heap.size w Wa from by rw [← hWa]; exact below_alloc (Below.refl _ _) _)
 clear HY0
 go_enter Try.func19, Try.ntmps19
 go_wp2_with fail
 try rw [hWa]
 clear hWa
 refine (servermsg_Parse_read a0 u0 u1 u2 q v0 v1 v2 n1 n2 Wa H.out HV.out).mono ?_
 rintro en W1 ⟨rfl, hb⟩
 have HY1 := Lib.hid (blk_below HYa.out hb)
 have HB1 := Lib.hid (HBa.out.trans (hb.mono HBa.out.size))
 clear hb
 have huMsg := Try.underlying33
 have hst : rowAt W1 (w.heap.size) 33 19 = true := rowAt_of HY1.out rfl
 have HC := Lib.hid (setRow_heap W1 w.heap.size _ #[.int .i64 v0, .bool false, .int .i64 v1, .int .i64 0, .int .i64 0, .int .i64 0, .int .i64 0, .int .i64 0, .int .i64 0, .bool false, .bool false, .int .i64 0, .int .i64 0, .int .i64 0, .int .i64 0, .int .i64 0, .int .i64 0, .slice none 0 0, .string v2] _ _ HY1.out)
 have HBz := Lib.hid (below_row HB1.out (Nat.le_refl _) #[.int .i64 v0, .bool false, .int .i64 v1, .int .i64 0, .int .i64 0, .int .i64 0, .int .i64 0, .int .i64 0, .int .i64 0, .bool false, .bool false, .int .i64 0, .int .i64 0, .int .i64 0, .int .i64 0, .int .i64 0, .int .i64 0, .slice none 0 0, .string v2])
 go_wp2_with fail
 refine bodyPost_ret (results_ctt rfl _ _ w.heap.size 33 #[.int .i64 v0, .bool false, .int .i64 v1, .int .i64 0, .int .i64 0, .int .i64 0, .int .i64 0, .int .i64 0, .int .i64 0, .bool false, .bool false, .int .i64 0, .int .i64 0, .int .i64 0, .int .i64 0, .int .i64 0, .int .i64 0, .slice none 0 0, .string v2] (0, 0) _ rfl (by with_reducible exact HC.out) Try.underlying33 rfl (by kernel_rfl)) rfl ?_
 exact ⟨.slice none 0 0, rfl, Kd.R_nil _ _ _ _ _, by with_reducible exact HBz.out⟩
end

end Go.Proofs.Ytpackckoblpbfaa.X
