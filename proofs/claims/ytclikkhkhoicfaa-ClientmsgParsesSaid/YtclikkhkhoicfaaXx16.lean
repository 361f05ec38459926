/- What each Go function that these laws use answers: as a Lean function, with the proof that the machine's call comes to it. Written by a program of this session (xprint.py). -/
import Derived.Test.YtclikkhkhoicfaaXx0
import Derived.Test.YtclikkhkhoicfaaXx3
import Derived.Test.YtclikkhkhoicfaaXx4
import Derived.Test.YtclikkhkhoicfaaXx6
import Derived.Test.YtclikkhkhoicfaaXx9
import Derived.Test.YtclikkhkhoicfaaXx14
namespace Go.Proofs.Ytclikkhkhoicfaa.X
open Go.RowKit Go.Proofs.YtclikkhkhoicfaaW.PrintWords Go.Proofs.YtclikkhkhoicfaaW.PrintLast Go.Proofs.YtclikkhkhoicfaaW.PrintMore
attribute [local go_sem] max2_int min2_int max_two min_two max_three min_three max_four min_four   -- for this text's walks alone
set_option linter.unusedVariables false
set_option linter.unusedSimpArgs false

/-! ### format_Parse: function 57 -/
def format_Parse.f (a0 : ByteArray) : Option (Int × Int × Bool × Bool × Int × Int × Int × Int × Int × Int × Int) := (octets_New.f a0).bind fun bt134 => ((octets_Cursor_Int.f bt134.1 bt134.2.1 bt134.2.2 1).bind fun bt138 => ((octets_Cursor_Int.f bt138.2.1 bt138.2.2.1 bt138.2.2.2 1).bind fun bt142 => ((octets_Cursor_Int.f bt142.2.1 bt142.2.2.1 bt142.2.2.2 1).bind fun bt147 => ((octets_Cursor_Int.f bt147.2.1 bt147.2.2.1 bt147.2.2.2 1).bind fun bt151 => ((octets_Cursor_Int.f bt151.2.1 bt151.2.2.1 bt151.2.2.2 2).bind fun bt155 => ((octets_Cursor_Int.f bt155.2.1 bt155.2.2.1 bt155.2.2.2 2).bind fun bt159 => ((octets_Cursor_Int.f bt159.2.1 bt159.2.2.1 bt159.2.2.2 2).bind fun bt163 => ((octets_Cursor_Int.f bt163.2.1 bt163.2.2.1 bt163.2.2.2 1).bind fun bt167 => ((octets_Cursor_Int.f bt167.2.1 bt167.2.2.1 bt167.2.2.2 1).bind fun bt171 => ((octets_Cursor_Int.f bt171.2.1 bt171.2.2.1 bt171.2.2.2 1).bind fun bt175 => ((octets_Cursor_Bytes.f bt175.2.1 bt175.2.2.1 bt175.2.2.2 3).bind fun bt179 => ((octets_Cursor_Err.f bt179.2.1 bt179.2.2.1 bt179.2.2.2).bind fun bt183 => (if bt183.1 = 0 then ((format_Valid.f bt138.1 bt142.1 (bt147.1 != 0) (bt151.1 != 0) bt155.1 bt159.1 bt163.1 bt167.1 bt171.1 bt175.1).bind fun t187 => (if t187 = true then (some (bt138.1, bt142.1, (bt147.1 != 0), (bt151.1 != 0), bt155.1, bt159.1, bt163.1, bt167.1, bt171.1, bt175.1, 0)) else (some (0, 0, false, false, 0, 0, 0, 0, 0, 0, 130)))) else ((octets_Cursor_Err.f bt183.2.1 bt183.2.2.1 bt183.2.2.2).bind fun bt188 => (some (0, 0, false, false, 0, 0, 0, 0, 0, 0, bt188.1))))))))))))))))
section
theorem exec_store_pfm (ρ : Operand → Value) (d : Option Tmp) (x y : Operand) (ty : TypeId) (ps : String) (af : Array Edge) (gd : Option (Nat × Bool)) (P : Program) (W : World) : (execOp ρ ⟨d, .store 27 x y, ty, ps, af, gd⟩).run P W = stOut P 27 W (ρ x) (ρ y) := rfl
theorem exec_load_pfm (ρ : Operand → Value) (d : Option Tmp) (x : Operand) (ty : TypeId) (ps : String) (af : Array Edge) (gd : Option (Nat × Bool)) (P : Program) (W : World) : (execOp ρ ⟨d, .load 27 x, ty, ps, af, gd⟩).run P W = ldOut P 27 W (ρ x) := rfl
theorem store_pfm (W : World) (g : Nat) (x0 : Int) (x1 : Int) (x2 : Bool) (x3 : Bool) (x4 : Int) (x5 : Int) (x6 : Int) (x7 : Int) (x8 : Int) (x9 : Int) (h : rowAt W g 27 10 = true) : stOut Try.prog 27 W (.pointer (some ⟨g, 0, none⟩)) (.agg #[.int .i64 x0, .int .i64 x1, .bool x2, .bool x3, .int .i64 x4, .int .i64 x5, .int .i64 x6, .int .i64 x7, .int .i64 x8, .int .i64 x9]) = .ok .skip (W.setRow g #[.int .i64 x0, .int .i64 x1, .bool x2, .bool x3, .int .i64 x4, .int .i64 x5, .int .i64 x6, .int .i64 x7, .int .i64 x8, .int .i64 x9]) := stOut_any (by kernel_rfl) W g _ rfl (by simp [Value.oneCell']) h
theorem load_pfm (W : World) (g : Nat) (h : rowAt W g 27 10 = true) : ldOut Try.prog 27 W (.pointer (some ⟨g, 0, none⟩)) = .ok (.value (.agg (cellsAt W g))) W := ldOut_any Try.underlying27 rfl (by kernel_rfl) W g h
attribute [local go_sem ↓] exec_store_pfm exec_load_pfm
attribute [local go_sem] store_pfm load_pfm
theorem row_pfm (W : World) : rowAt (W.alloc (.cells #[.int .i64 0, .int .i64 0, .bool false, .bool false, .int .i64 0, .int .i64 0, .int .i64 0, .int .i64 0, .int .i64 0, .int .i64 0] 27)) W.heap.size 27 10 = true := rowAt_of (heap_alloc_new W _) rfl
set_option maxHeartbeats 4000000 in
set_option maxRecDepth 100000 in
theorem format_Parse.core (a0 : ByteArray) (v1 : Int) (s1 : ByteArray) (p1 c1 : Int) (v2 : Int) (s2 : ByteArray) (p2 c2 : Int) (v3 : Int) (s3 : ByteArray) (p3 c3 : Int) (v4 : Int) (s4 : ByteArray) (p4 c4 : Int) (v5 : Int) (s5 : ByteArray) (p5 c5 : Int) (v6 : Int) (s6 : ByteArray) (p6 c6 : Int) (v7 : Int) (s7 : ByteArray) (p7 c7 : Int) (v8 : Int) (s8 : ByteArray) (p8 c8 : Int) (v9 : Int) (s9 : ByteArray) (p9 c9 : Int) (v10 : Int) (s10 : ByteArray) (p10 c10 : Int) (b : ByteArray) (s11 : ByteArray) (p11 c11 : Int) (v : Bool) (w : World) (e1 : octets_Cursor_Int.f a0 0 0 1 = some (v1, s1, p1, c1)) (e2 : octets_Cursor_Int.f s1 p1 c1 1 = some (v2, s2, p2, c2)) (e3 : octets_Cursor_Int.f s2 p2 c2 1 = some (v3, s3, p3, c3)) (e4 : octets_Cursor_Int.f s3 p3 c3 1 = some (v4, s4, p4, c4)) (e5 : octets_Cursor_Int.f s4 p4 c4 2 = some (v5, s5, p5, c5)) (e6 : octets_Cursor_Int.f s5 p5 c5 2 = some (v6, s6, p6, c6)) (e7 : octets_Cursor_Int.f s6 p6 c6 2 = some (v7, s7, p7, c7)) (e8 : octets_Cursor_Int.f s7 p7 c7 1 = some (v8, s8, p8, c8)) (e9 : octets_Cursor_Int.f s8 p8 c8 1 = some (v9, s9, p9, c9)) (e10 : octets_Cursor_Int.f s9 p9 c9 1 = some (v10, s10, p10, c10)) (e11 : octets_Cursor_Bytes.f s10 p10 c10 3 = some (b, s11, p11, c11)) (ev : c11 = 0 → format_Valid.f v1 v2 (v3 != 0) (v4 != 0) v5 v6 v7 v8 v9 v10 = some v) :
    Calls Try.prog 57 #[.string a0] w fun e w' => e = .returned (if c11 = 0 then if v = true then .tuple #[.agg #[.int .i64 v1, .int .i64 v2, .bool (v3 != 0), .bool (v4 != 0), .int .i64 v5, .int .i64 v6, .int .i64 v7, .int .i64 v8, .int .i64 v9, .int .i64 v10], .int .i64 0] else .tuple #[.agg #[.int .i64 0, .int .i64 0, .bool false, .bool false, .int .i64 0, .int .i64 0, .int .i64 0, .int .i64 0, .int .i64 0, .int .i64 0], .int .i64 130] else .tuple #[.agg #[.int .i64 0, .int .i64 0, .bool false, .bool false, .int .i64 0, .int .i64 0, .int .i64 0, .int .i64 0, .int .i64 0, .int .i64 0], .int .i64 c11]) ∧ Below w.heap.size w w' := by
  have E1 := Lib.hid e1
  have E2 := Lib.hid e2
  have E3 := Lib.hid e3
  have E4 := Lib.hid e4
  have E5 := Lib.hid e5
  have E6 := Lib.hid e6
  have E7 := Lib.hid e7
  have E8 := Lib.hid e8
  have E9 := Lib.hid e9
  have E10 := Lib.hid e10
  have E11 := Lib.hid e11
  have EV := Lib.hid ev
  clear ev e1 e2 e3 e4 e5 e6 e7 e8 e9 e10 e11
  obtain ⟨Wa, hWa⟩ : ∃ X, w.alloc (.cells #[.int .i64 0, .int .i64 0, .bool false, .bool false, .int .i64 0, .int .i64 0, .int .i64 0, .int .i64 0, .int .i64 0, .int .i64 0] 27) = X := ⟨_, rfl⟩
  have HYa := Lib.hid (show Wa.heap[w.heap.size]? = some (.cells #[.int .i64 0, .int .i64 0, .bool false, .bool false, .int .i64 0, .int .i64 0, .int .i64 0, .int .i64 0, .int .i64 0, .int .i64 0] 27 (0, 0)) from by rw [← hWa]; exact heap_alloc_new w (.cells #[.int .i64 0, .int .i64 0, .bool false, .bool false, .int .i64 0, .int .i64 0, .int .i64 0, .int .i64 0, .int .i64 0, .int .i64 0] 27))
  have HBa := Lib.hid (show Below w.heap.size w Wa from by rw [← hWa]; exact below_alloc (Below.refl _ _) _)
  go_enter Try.func57, Try.ntmps57
  go_upto_region 1 with (fail)
  try rw [hWa]
  clear hWa
  go_wp2_with fail
  refine (octets_New.calls a0 a0 0 0 w Wa HBa.out rfl).mono ?_
  rintro en W0 ⟨g, rfl, hi, hb, hb2⟩
  have HI0 := Lib.hid hi
  have HB0 := Lib.hid hb
  have HY0 := Lib.hid (blk_below HYa.out hb2)
  have nrg : w.heap.size ≠ g := fun e => by have h1 := HY0.out; rw [e, hi.1] at h1; simp at h1
  clear hi hb hb2 HYa HBa
  go_wp2_with fail
  refine (octets_Cursor_Int.calls g a0 0 0 1 v1 s1 p1 c1 w W0 HI0.out HB0.out E1.out).mono ?_
  rintro en W1 ⟨rfl, hi, hb, hk⟩
  have HI1 := Lib.hid hi
  have HB1 := Lib.hid hb
  have HY1 := Lib.hid (hk.blk HY0.out nrg (by simp))
  clear hi hb hk
  go_wp2_with fail
  refine (octets_Cursor_Int.calls g s1 p1 c1 1 v2 s2 p2 c2 w W1 HI1.out HB1.out E2.out).mono ?_
  rintro en W2 ⟨rfl, hi, hb, hk⟩
  have HI2 := Lib.hid hi
  have HB2 := Lib.hid hb
  have HY2 := Lib.hid (hk.blk HY1.out nrg (by simp))
  clear hi hb hk
  obtain ⟨Va, hV⟩ : ∃ X, (W2.alloc (.cells #[.int .i64 0, .int .i64 0, .bool false, .bool false, .int .i64 0, .int .i64 0, .int .i64 0, .int .i64 0, .int .i64 0, .int .i64 0] 27)).setRow W2.heap.size #[.int .i64 v1, .int .i64 v2, .bool false, .bool false, .int .i64 0, .int .i64 0, .int .i64 0, .int .i64 0, .int .i64 0, .int .i64 0] = X := ⟨_, rfl⟩
  have hg2 := blk_lt HI2.out.1
  have hr2 := blk_lt HY2.out
  have nfg : W2.heap.size ≠ g := by omega
  have nrf : w.heap.size ≠ W2.heap.size := by omega
  have hge : w.heap.size ≤ W2.heap.size := by omega
  have hba := below_alloc (Below.refl W2.heap.size W2) (.cells #[.int .i64 0, .int .i64 0, .bool false, .bool false, .int .i64 0, .int .i64 0, .int .i64 0, .int .i64 0, .int .i64 0, .int .i64 0] 27)
  have HFa := Lib.hid (show Va.heap[W2.heap.size]? = some (.cells #[.int .i64 v1, .int .i64 v2, .bool false, .bool false, .int .i64 0, .int .i64 0, .int .i64 0, .int .i64 0, .int .i64 0, .int .i64 0] 27 (0, 0)) from by rw [← hV]; exact setRow_heap _ _ _ _ _ _ (heap_alloc_new W2 _))
  have HYa := Lib.hid (show Va.heap[w.heap.size]? = some (.cells #[.int .i64 0, .int .i64 0, .bool false, .bool false, .int .i64 0, .int .i64 0, .int .i64 0, .int .i64 0, .int .i64 0, .int .i64 0] 27 (0, 0)) from by rw [← hV]; exact (setRow_other _ _ _ _ nrf).trans (blk_below HY2.out hba))
  have HIa := Lib.hid (show IsS79 w Va g s2 p2 c2 from ⟨by rw [← hV]; exact (setRow_other _ _ _ _ (Ne.symm nfg)).trans (blk_below HI2.out.1 hba), HI2.out.2⟩)
  have HBa := Lib.hid (show Below w.heap.size w Va from by rw [← hV]; exact below_row (HB2.out.trans (Below.mono hba HB2.out.size)) hge _)
  have hrow := row_pfm W2
  go_upto_region 3 with (fail)
  try rw [hV]
  clear hV hba hg2 hr2 hrow HI2 HB2 HY2
  obtain ⟨fb, hfb⟩ : ∃ x, W2.heap.size = x := ⟨_, rfl⟩
  rw [hfb] at HFa nfg nrf hge ⊢
  clear hfb
  go_wp2_with fail
  refine (octets_Cursor_Int.calls g s2 p2 c2 1 v3 s3 p3 c3 w Va HIa.out HBa.out E3.out).mono ?_
  rintro en W3 ⟨rfl, hi, hb, hk⟩
  have HI3 := Lib.hid hi
  have HB3 := Lib.hid hb
  have HY3 := Lib.hid (hk.blk HYa.out nrg (by simp))
  have HF3 := Lib.hid (hk.blk HFa.out nfg (by simp))
  clear hi hb hk
  go_wp2_with fail
  refine (octets_Cursor_Int.calls g s3 p3 c3 1 v4 s4 p4 c4 w W3 HI3.out HB3.out E4.out).mono ?_
  rintro en W4 ⟨rfl, hi, hb, hk⟩
  have HI4 := Lib.hid hi
  have HB4 := Lib.hid hb
  have HY4 := Lib.hid (hk.blk HY3.out nrg (by simp))
  have HF4 := Lib.hid (hk.blk HF3.out nfg (by simp))
  clear hi hb hk
  have f2 : W4.frozen? ⟨fb, 2, none⟩ = false := blk_frozen HF4.out _
  have y2 : W4.cell? ⟨fb, 2, none⟩ = some (.bool false) := (blk_cell HF4.out 2).trans rfl
  have f3 : W4.frozen? ⟨fb, 3, none⟩ = false := blk_frozen HF4.out _
  have y3 : W4.cell? ⟨fb, 3, none⟩ = some (.bool false) := (blk_cell HF4.out 3).trans rfl
  obtain ⟨Vb, hV⟩ : ∃ X, ((W4.setCell ⟨fb, 2, none⟩ (.bool (v3 != 0))).setCell ⟨fb, 3, none⟩ (.bool (v4 != 0))) = X := ⟨_, rfl⟩
  have HFb := Lib.hid (show Vb.heap[fb]? = some (.cells #[.int .i64 v1, .int .i64 v2, .bool (v3 != 0), .bool (v4 != 0), .int .i64 0, .int .i64 0, .int .i64 0, .int .i64 0, .int .i64 0, .int .i64 0] 27 (0, 0)) from by rw [← hV]; exact (blk_put (cs' := #[.int .i64 v1, .int .i64 v2, .bool (v3 != 0), .bool (v4 != 0), .int .i64 0, .int .i64 0, .int .i64 0, .int .i64 0, .int .i64 0, .int .i64 0]) (blk_put (cs' := #[.int .i64 v1, .int .i64 v2, .bool (v3 != 0), .bool false, .int .i64 0, .int .i64 0, .int .i64 0, .int .i64 0, .int .i64 0, .int .i64 0]) HF4.out 2 (.bool (v3 != 0)) rfl) 3 (.bool (v4 != 0)) rfl))
  have HYb := Lib.hid (show Vb.heap[w.heap.size]? = some (.cells #[.int .i64 0, .int .i64 0, .bool false, .bool false, .int .i64 0, .int .i64 0, .int .i64 0, .int .i64 0, .int .i64 0, .int .i64 0] 27 (0, 0)) from by rw [← hV]; exact (blk_far (blk_far HY4.out (by exact nrf) _) (by exact nrf) _))
  have HIb := Lib.hid (show IsS79 w Vb g s4 p4 c4 from ⟨by rw [← hV]; exact (blk_far (blk_far HI4.out.1 (by exact Ne.symm nfg) _) (by exact Ne.symm nfg) _), HI4.out.2⟩)
  have HBb := Lib.hid (show Below w.heap.size w Vb from by rw [← hV]; exact (below_set (below_set HB4.out hge) hge))
  go_upto_region 4 with (fail)
  try rw [hV]
  clear hV f2 y2 f3 y3 HF4 HY4 HI4 HB4
  go_wp2_with fail
  refine (octets_Cursor_Int.calls g s4 p4 c4 2 v5 s5 p5 c5 w Vb HIb.out HBb.out E5.out).mono ?_
  rintro en W5 ⟨rfl, hi, hb, hk⟩
  have HI5 := Lib.hid hi
  have HB5 := Lib.hid hb
  have HY5 := Lib.hid (hk.blk HYb.out nrg (by simp))
  have HF5 := Lib.hid (hk.blk HFb.out nfg (by simp))
  clear hi hb hk
  go_wp2_with fail
  refine (octets_Cursor_Int.calls g s5 p5 c5 2 v6 s6 p6 c6 w W5 HI5.out HB5.out E6.out).mono ?_
  rintro en W6 ⟨rfl, hi, hb, hk⟩
  have HI6 := Lib.hid hi
  have HB6 := Lib.hid hb
  have HY6 := Lib.hid (hk.blk HY5.out nrg (by simp))
  have HF6 := Lib.hid (hk.blk HF5.out nfg (by simp))
  clear hi hb hk
  go_wp2_with fail
  refine (octets_Cursor_Int.calls g s6 p6 c6 2 v7 s7 p7 c7 w W6 HI6.out HB6.out E7.out).mono ?_
  rintro en W7 ⟨rfl, hi, hb, hk⟩
  have HI7 := Lib.hid hi
  have HB7 := Lib.hid hb
  have HY7 := Lib.hid (hk.blk HY6.out nrg (by simp))
  have HF7 := Lib.hid (hk.blk HF6.out nfg (by simp))
  clear hi hb hk
  have f4 : W7.frozen? ⟨fb, 4, none⟩ = false := blk_frozen HF7.out _
  have y4 : W7.cell? ⟨fb, 4, none⟩ = some (.int .i64 0) := (blk_cell HF7.out 4).trans rfl
  have f5 : W7.frozen? ⟨fb, 5, none⟩ = false := blk_frozen HF7.out _
  have y5 : W7.cell? ⟨fb, 5, none⟩ = some (.int .i64 0) := (blk_cell HF7.out 5).trans rfl
  have f6 : W7.frozen? ⟨fb, 6, none⟩ = false := blk_frozen HF7.out _
  have y6 : W7.cell? ⟨fb, 6, none⟩ = some (.int .i64 0) := (blk_cell HF7.out 6).trans rfl
  obtain ⟨Vc, hV⟩ : ∃ X, (((W7.setCell ⟨fb, 4, none⟩ (.int .i64 v5)).setCell ⟨fb, 5, none⟩ (.int .i64 v6)).setCell ⟨fb, 6, none⟩ (.int .i64 v7)) = X := ⟨_, rfl⟩
  have HFc := Lib.hid (show Vc.heap[fb]? = some (.cells #[.int .i64 v1, .int .i64 v2, .bool (v3 != 0), .bool (v4 != 0), .int .i64 v5, .int .i64 v6, .int .i64 v7, .int .i64 0, .int .i64 0, .int .i64 0] 27 (0, 0)) from by rw [← hV]; exact (blk_put (cs' := #[.int .i64 v1, .int .i64 v2, .bool (v3 != 0), .bool (v4 != 0), .int .i64 v5, .int .i64 v6, .int .i64 v7, .int .i64 0, .int .i64 0, .int .i64 0]) (blk_put (cs' := #[.int .i64 v1, .int .i64 v2, .bool (v3 != 0), .bool (v4 != 0), .int .i64 v5, .int .i64 v6, .int .i64 0, .int .i64 0, .int .i64 0, .int .i64 0]) (blk_put (cs' := #[.int .i64 v1, .int .i64 v2, .bool (v3 != 0), .bool (v4 != 0), .int .i64 v5, .int .i64 0, .int .i64 0, .int .i64 0, .int .i64 0, .int .i64 0]) HF7.out 4 (.int .i64 v5) rfl) 5 (.int .i64 v6) rfl) 6 (.int .i64 v7) rfl))
  have HYc := Lib.hid (show Vc.heap[w.heap.size]? = some (.cells #[.int .i64 0, .int .i64 0, .bool false, .bool false, .int .i64 0, .int .i64 0, .int .i64 0, .int .i64 0, .int .i64 0, .int .i64 0] 27 (0, 0)) from by rw [← hV]; exact (blk_far (blk_far (blk_far HY7.out (by exact nrf) _) (by exact nrf) _) (by exact nrf) _))
  have HIc := Lib.hid (show IsS79 w Vc g s7 p7 c7 from ⟨by rw [← hV]; exact (blk_far (blk_far (blk_far HI7.out.1 (by exact Ne.symm nfg) _) (by exact Ne.symm nfg) _) (by exact Ne.symm nfg) _), HI7.out.2⟩)
  have HBc := Lib.hid (show Below w.heap.size w Vc from by rw [← hV]; exact (below_set (below_set (below_set HB7.out hge) hge) hge))
  go_upto_region 5 with (fail)
  try rw [hV]
  clear hV f4 y4 f5 y5 f6 y6 HF7 HY7 HI7 HB7
  go_wp2_with fail
  refine (octets_Cursor_Int.calls g s7 p7 c7 1 v8 s8 p8 c8 w Vc HIc.out HBc.out E8.out).mono ?_
  rintro en W8 ⟨rfl, hi, hb, hk⟩
  have HI8 := Lib.hid hi
  have HB8 := Lib.hid hb
  have HY8 := Lib.hid (hk.blk HYc.out nrg (by simp))
  have HF8 := Lib.hid (hk.blk HFc.out nfg (by simp))
  clear hi hb hk
  go_wp2_with fail
  refine (octets_Cursor_Int.calls g s8 p8 c8 1 v9 s9 p9 c9 w W8 HI8.out HB8.out E9.out).mono ?_
  rintro en W9 ⟨rfl, hi, hb, hk⟩
  have HI9 := Lib.hid hi
  have HB9 := Lib.hid hb
  have HY9 := Lib.hid (hk.blk HY8.out nrg (by simp))
  have HF9 := Lib.hid (hk.blk HF8.out nfg (by simp))
  clear hi hb hk
  go_wp2_with fail
  refine (octets_Cursor_Int.calls g s9 p9 c9 1 v10 s10 p10 c10 w W9 HI9.out HB9.out E10.out).mono ?_
  rintro en W10 ⟨rfl, hi, hb, hk⟩
  have HI10 := Lib.hid hi
  have HB10 := Lib.hid hb
  have HY10 := Lib.hid (hk.blk HY9.out nrg (by simp))
  have HF10 := Lib.hid (hk.blk HF9.out nfg (by simp))
  clear hi hb hk
  have f7 : W10.frozen? ⟨fb, 7, none⟩ = false := blk_frozen HF10.out _
  have y7 : W10.cell? ⟨fb, 7, none⟩ = some (.int .i64 0) := (blk_cell HF10.out 7).trans rfl
  have f8 : W10.frozen? ⟨fb, 8, none⟩ = false := blk_frozen HF10.out _
  have y8 : W10.cell? ⟨fb, 8, none⟩ = some (.int .i64 0) := (blk_cell HF10.out 8).trans rfl
  have f9 : W10.frozen? ⟨fb, 9, none⟩ = false := blk_frozen HF10.out _
  have y9 : W10.cell? ⟨fb, 9, none⟩ = some (.int .i64 0) := (blk_cell HF10.out 9).trans rfl
  obtain ⟨Vd, hV⟩ : ∃ X, (((W10.setCell ⟨fb, 7, none⟩ (.int .i64 v8)).setCell ⟨fb, 8, none⟩ (.int .i64 v9)).setCell ⟨fb, 9, none⟩ (.int .i64 v10)) = X := ⟨_, rfl⟩
  have HFd := Lib.hid (show Vd.heap[fb]? = some (.cells #[.int .i64 v1, .int .i64 v2, .bool (v3 != 0), .bool (v4 != 0), .int .i64 v5, .int .i64 v6, .int .i64 v7, .int .i64 v8, .int .i64 v9, .int .i64 v10] 27 (0, 0)) from by rw [← hV]; exact (blk_put (cs' := #[.int .i64 v1, .int .i64 v2, .bool (v3 != 0), .bool (v4 != 0), .int .i64 v5, .int .i64 v6, .int .i64 v7, .int .i64 v8, .int .i64 v9, .int .i64 v10]) (blk_put (cs' := #[.int .i64 v1, .int .i64 v2, .bool (v3 != 0), .bool (v4 != 0), .int .i64 v5, .int .i64 v6, .int .i64 v7, .int .i64 v8, .int .i64 v9, .int .i64 0]) (blk_put (cs' := #[.int .i64 v1, .int .i64 v2, .bool (v3 != 0), .bool (v4 != 0), .int .i64 v5, .int .i64 v6, .int .i64 v7, .int .i64 v8, .int .i64 0, .int .i64 0]) HF10.out 7 (.int .i64 v8) rfl) 8 (.int .i64 v9) rfl) 9 (.int .i64 v10) rfl))
  have HYd := Lib.hid (show Vd.heap[w.heap.size]? = some (.cells #[.int .i64 0, .int .i64 0, .bool false, .bool false, .int .i64 0, .int .i64 0, .int .i64 0, .int .i64 0, .int .i64 0, .int .i64 0] 27 (0, 0)) from by rw [← hV]; exact (blk_far (blk_far (blk_far HY10.out (by exact nrf) _) (by exact nrf) _) (by exact nrf) _))
  have HId := Lib.hid (show IsS79 w Vd g s10 p10 c10 from ⟨by rw [← hV]; exact (blk_far (blk_far (blk_far HI10.out.1 (by exact Ne.symm nfg) _) (by exact Ne.symm nfg) _) (by exact Ne.symm nfg) _), HI10.out.2⟩)
  have HBd := Lib.hid (show Below w.heap.size w Vd from by rw [← hV]; exact (below_set (below_set (below_set HB10.out hge) hge) hge))
  go_upto_region 6 with (fail)
  try rw [hV]
  clear hV f7 y7 f8 y8 f9 y9 HF10 HY10 HI10 HB10
  go_wp2_with fail
  refine (octets_Cursor_Bytes.calls g s10 p10 c10 3 b s11 p11 c11 w Vd HId.out HBd.out E11.out).mono ?_
  rintro en W11 ⟨rfl, hi, hb, hk⟩
  have HI11 := Lib.hid hi
  have HB11 := Lib.hid hb
  have HY11 := Lib.hid (hk.blk HYd.out nrg (by simp))
  have HF11 := Lib.hid (hk.blk HFd.out nfg (by simp))
  clear hi hb hk
  have q1 : rowAt W11 w.heap.size 27 10 = true := rowAt_of HY11.out rfl
  have q2 : rowAt W11 fb 27 10 = true := rowAt_of HF11.out rfl
  have q3 : cellsAt W11 fb = #[.int .i64 v1, .int .i64 v2, .bool (v3 != 0), .bool (v4 != 0), .int .i64 v5, .int .i64 v6, .int .i64 v7, .int .i64 v8, .int .i64 v9, .int .i64 v10] := cellsAt_of HF11.out
  go_wp2_with fail
  refine (octets_Cursor_Err.calls g s11 p11 c11 c11 s11 p11 c11 w W11 HI11.out HB11.out rfl).mono ?_
  rintro en W12 ⟨rfl, hi, hb, hk⟩
  have HI12 := Lib.hid hi
  have HB12 := Lib.hid hb
  have HY12 := Lib.hid (hk.blk HY11.out nrg (by simp))
  have HF12 := Lib.hid (hk.blk HF11.out nfg (by simp))
  clear hi hb hk q1 q2 q3
  by_cases hc : c11 = 0
  · subst hc
    have ev := EV.out rfl
    have EV2 := Lib.hid ev
    clear ev EV
    have q2 : rowAt W12 fb 27 10 = true := rowAt_of HF12.out rfl
    have q3 : cellsAt W12 fb = #[.int .i64 v1, .int .i64 v2, .bool (v3 != 0), .bool (v4 != 0), .int .i64 v5, .int .i64 v6, .int .i64 v7, .int .i64 v8, .int .i64 v9, .int .i64 v10] := cellsAt_of HF12.out
    go_wp2_with fail
    refine (format_Valid.calls v1 v2 (v3 != 0) (v4 != 0) v5 v6 v7 v8 v9 v10 v _ EV2.out).mono ?_
    rintro en W13 ⟨rfl, hb⟩
    have HY13 := Lib.hid (blk_below HY12.out hb)
    have HF13 := Lib.hid (blk_below HF12.out hb)
    have HB13 := Lib.hid (HB12.out.trans (Below.mono hb HB12.out.size))
    clear hb q2 q3
    have q1 : rowAt W13 w.heap.size 27 10 = true := rowAt_of HY13.out rfl
    have q2 : rowAt W13 fb 27 10 = true := rowAt_of HF13.out rfl
    have q3 : cellsAt W13 fb = #[.int .i64 v1, .int .i64 v2, .bool (v3 != 0), .bool (v4 != 0), .int .i64 v5, .int .i64 v6, .int .i64 v7, .int .i64 v8, .int .i64 v9, .int .i64 v10] := cellsAt_of HF13.out
    cases v
    · go_wp2_with fail
      refine bodyPost_ret (results_ct rfl _ _ w.heap.size 27 #[.int .i64 0, .int .i64 0, .bool false, .bool false, .int .i64 0, .int .i64 0, .int .i64 0, .int .i64 0, .int .i64 0, .int .i64 0] (0, 0) _ rfl (by with_reducible exact setRow_heap _ _ _ _ _ _ HY13.out) Try.underlying27 rfl (by kernel_rfl)) rfl ?_
      exact ⟨by first | rfl | (rw [if_neg HC.out]; rfl), below_row HB13.out (Nat.le_refl _) _⟩
    · go_wp2_with fail
      refine bodyPost_ret (results_ct rfl _ _ w.heap.size 27 #[.int .i64 v1, .int .i64 v2, .bool (v3 != 0), .bool (v4 != 0), .int .i64 v5, .int .i64 v6, .int .i64 v7, .int .i64 v8, .int .i64 v9, .int .i64 v10] (0, 0) _ rfl (by with_reducible exact setRow_heap _ _ _ _ _ _ HY13.out) Try.underlying27 rfl (by kernel_rfl)) rfl ?_
      exact ⟨by first | rfl | (rw [if_neg HC.out]; rfl), below_row HB13.out (Nat.le_refl _) _⟩
  · have d0 : (c11 != 0) = true := by simpa using hc
    have HC := Lib.hid hc
    clear hc EV
    go_wp2_with fail
    refine (octets_Cursor_Err.calls g s11 p11 c11 c11 s11 p11 c11 w W12 HI12.out HB12.out rfl).mono ?_
    rintro en W13 ⟨rfl, hi, hb, hk⟩
    have HY13 := Lib.hid (hk.blk HY12.out nrg (by simp))
    have HB13 := Lib.hid hb
    clear hi hb hk
    have q1 : rowAt W13 w.heap.size 27 10 = true := rowAt_of HY13.out rfl
    go_wp2_with fail
    refine bodyPost_ret (results_ct rfl _ _ w.heap.size 27 #[.int .i64 0, .int .i64 0, .bool false, .bool false, .int .i64 0, .int .i64 0, .int .i64 0, .int .i64 0, .int .i64 0, .int .i64 0] (0, 0) _ rfl (by with_reducible exact setRow_heap _ _ _ _ _ _ HY13.out) Try.underlying27 rfl (by kernel_rfl)) rfl ?_
    exact ⟨by first | rfl | (rw [if_neg HC.out]; rfl), below_row HB13.out (Nat.le_refl _) _⟩
end
theorem format_Parse.calls (a0 : ByteArray) (r1 : Int) (r2 : Int) (r3 : Bool) (r4 : Bool) (r5 : Int) (r6 : Int) (r7 : Int) (r8 : Int) (r9 : Int) (r10 : Int) (r11 : Int) (w : World) (h : format_Parse.f a0 = some (r1, r2, r3, r4, r5, r6, r7, r8, r9, r10, r11)) :
    Calls Try.prog 57 #[.string a0] w fun e w' => e = .returned (.tuple #[.agg #[.int .i64 r1, .int .i64 r2, .bool r3, .bool r4, .int .i64 r5, .int .i64 r6, .int .i64 r7, .int .i64 r8, .int .i64 r9, .int .i64 r10], .int .i64 r11]) ∧ Below w.heap.size w w' := by
  unfold format_Parse.f at h
  obtain ⟨⟨_, _, _⟩, h0, h⟩ := Option.bind_eq_some_iff.1 h
  obtain ⟨rfl, rfl, rfl⟩ : a0 = _ ∧ (0 : Int) = _ ∧ (0 : Int) = _ := by simpa [octets_New.f] using h0
  obtain ⟨⟨v1, s1, p1, c1⟩, e1, h⟩ := Option.bind_eq_some_iff.1 h
  obtain ⟨⟨v2, s2, p2, c2⟩, e2, h⟩ := Option.bind_eq_some_iff.1 h
  obtain ⟨⟨v3, s3, p3, c3⟩, e3, h⟩ := Option.bind_eq_some_iff.1 h
  obtain ⟨⟨v4, s4, p4, c4⟩, e4, h⟩ := Option.bind_eq_some_iff.1 h
  obtain ⟨⟨v5, s5, p5, c5⟩, e5, h⟩ := Option.bind_eq_some_iff.1 h
  obtain ⟨⟨v6, s6, p6, c6⟩, e6, h⟩ := Option.bind_eq_some_iff.1 h
  obtain ⟨⟨v7, s7, p7, c7⟩, e7, h⟩ := Option.bind_eq_some_iff.1 h
  obtain ⟨⟨v8, s8, p8, c8⟩, e8, h⟩ := Option.bind_eq_some_iff.1 h
  obtain ⟨⟨v9, s9, p9, c9⟩, e9, h⟩ := Option.bind_eq_some_iff.1 h
  obtain ⟨⟨v10, s10, p10, c10⟩, e10, h⟩ := Option.bind_eq_some_iff.1 h
  obtain ⟨⟨b, s11, p11, c11⟩, e11, h⟩ := Option.bind_eq_some_iff.1 h
  obtain ⟨⟨c, _, _, _⟩, e12, h⟩ := Option.bind_eq_some_iff.1 h
  obtain ⟨rfl, rfl, rfl, rfl⟩ : c11 = _ ∧ s11 = _ ∧ p11 = _ ∧ c11 = _ := by simpa [octets_Cursor_Err.f] using e12
  dsimp only at e1 e2 e3 e4 e5 e6 e7 e8 e9 e10 e11 h
  by_cases hc : c11 = 0
  · rw [if_pos hc] at h
    obtain ⟨v, ev, h⟩ := Option.bind_eq_some_iff.1 h
    refine (format_Parse.core a0 v1 s1 p1 c1 v2 s2 p2 c2 v3 s3 p3 c3 v4 s4 p4 c4 v5 s5 p5 c5 v6 s6 p6 c6 v7 s7 p7 c7 v8 s8 p8 c8 v9 s9 p9 c9 v10 s10 p10 c10 b s11 p11 c11 v w e1 e2 e3 e4 e5 e6 e7 e8 e9 e10 e11 (fun _ => ev)).mono ?_
    rintro e w' ⟨rfl, hb⟩
    refine ⟨?_, hb⟩
    rw [if_pos hc]
    cases v
    · rw [if_neg (by decide)] at h ⊢
      simp only [Option.some.injEq, Prod.mk.injEq] at h
      obtain ⟨rfl, rfl, rfl, rfl, rfl, rfl, rfl, rfl, rfl, rfl, rfl⟩ := h
      rfl
    · rw [if_pos rfl] at h ⊢
      simp only [Option.some.injEq, Prod.mk.injEq] at h
      obtain ⟨rfl, rfl, rfl, rfl, rfl, rfl, rfl, rfl, rfl, rfl, rfl⟩ := h
      rfl
  · rw [if_neg hc] at h
    obtain ⟨⟨c, _, _, _⟩, e13, h⟩ := Option.bind_eq_some_iff.1 h
    obtain ⟨rfl, rfl, rfl, rfl⟩ : c11 = _ ∧ s11 = _ ∧ p11 = _ ∧ c11 = _ := by simpa [octets_Cursor_Err.f] using e13
    refine (format_Parse.core a0 v1 s1 p1 c1 v2 s2 p2 c2 v3 s3 p3 c3 v4 s4 p4 c4 v5 s5 p5 c5 v6 s6 p6 c6 v7 s7 p7 c7 v8 s8 p8 c8 v9 s9 p9 c9 v10 s10 p10 c10 b s11 p11 c11 true w e1 e2 e3 e4 e5 e6 e7 e8 e9 e10 e11 (fun h => absurd h hc)).mono ?_
    rintro e w' ⟨rfl, hb⟩
    refine ⟨?_, hb⟩
    rw [if_neg hc]
    simp only [Option.some.injEq, Prod.mk.injEq] at h
    obtain ⟨rfl, rfl, rfl, rfl, rfl, rfl, rfl, rfl, rfl, rfl, rfl⟩ := h
    rfl

end Go.Proofs.Ytclikkhkhoicfaa.X
