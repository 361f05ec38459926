/- What each Go function that these laws use answers: as a Lean function, with the proof that the machine's call comes to it. Written by a program of this session (xprint.py). -/
import Derived.Test.YtclikkhkhoicfaaXx0
import Derived.Test.YtclikkhkhoicfaaXx7
import Derived.Test.YtclikkhkhoicfaaXx14
import Derived.Test.YtclikkhkhoicfaaXx15
import Derived.Test.YtclikkhkhoicfaaXx16
namespace Go.Proofs.Ytclikkhkhoicfaa.X
open Go.RowKit Go.Proofs.YtclikkhkhoicfaaW.PrintWords Go.Proofs.YtclikkhkhoicfaaW.PrintLast Go.Proofs.YtclikkhkhoicfaaW.PrintMore
attribute [local go_sem] max2_int min2_int max_two min_two max_three min_three max_four min_four   -- for this text's walks alone
set_option linter.unusedVariables false
set_option linter.unusedSimpArgs false

/-! ### clientmsg_reader_format: function 34 -/
theorem exec_store_fmt (ρ : Operand → Value) (d : Option Tmp) (x y : Operand) (ty : TypeId) (ps : String) (af : Array Edge) (gd : Option (Nat × Bool)) (P : Program) (W : World) : (execOp ρ ⟨d, .store 27 x y, ty, ps, af, gd⟩).run P W = stOut P 27 W (ρ x) (ρ y) := rfl
theorem exec_load_fmt (ρ : Operand → Value) (d : Option Tmp) (x : Operand) (ty : TypeId) (ps : String) (af : Array Edge) (gd : Option (Nat × Bool)) (P : Program) (W : World) : (execOp ρ ⟨d, .load 27 x, ty, ps, af, gd⟩).run P W = ldOut P 27 W (ρ x) := rfl
theorem store_fmt (W : World) (g : Nat) (x0 : Int) (x1 : Int) (x2 : Bool) (x3 : Bool) (x4 : Int) (x5 : Int) (x6 : Int) (x7 : Int) (x8 : Int) (x9 : Int) (h : rowAt W g 27 10 = true) : stOut Try.prog 27 W (.pointer (some ⟨g, 0, none⟩)) (.agg #[.int .i64 x0, .int .i64 x1, .bool x2, .bool x3, .int .i64 x4, .int .i64 x5, .int .i64 x6, .int .i64 x7, .int .i64 x8, .int .i64 x9]) = .ok .skip (W.setRow g #[.int .i64 x0, .int .i64 x1, .bool x2, .bool x3, .int .i64 x4, .int .i64 x5, .int .i64 x6, .int .i64 x7, .int .i64 x8, .int .i64 x9]) := stOut_any (by kernel_rfl) W g _ rfl (by simp [Value.oneCell']) h
theorem load_fmt (W : World) (g : Nat) (h : rowAt W g 27 10 = true) : ldOut Try.prog 27 W (.pointer (some ⟨g, 0, none⟩)) = .ok (.value (.agg (cellsAt W g))) W := ldOut_any Try.underlying27 rfl (by kernel_rfl) W g h
abbrev F10 := Int × Int × Bool × Bool × Int × Int × Int × Int × Int × Int × Int
def formatC (q : CS) : Option (F10 × CS) := (bytesC q 3).bind fun a => (bytesC a.2 16).bind fun b => if b.2.ce = 0 then (format_Parse.f b.1).map fun p => (p, b.2) else some ((0, 0, false, false, 0, 0, 0, 0, 0, 0, b.2.ce), b.2)
section
attribute [local go_sem ↓] exec_store_msg exec_load_msg exec_store_fmt exec_load_fmt
attribute [local go_sem] store_msg load_msg store_fmt load_fmt
set_option maxHeartbeats 4000000 in
set_option maxRecDepth 100000 in
theorem format_k (w0 : World) (g : Nat) (q : CS) (f0 : Int) (f1 : Int) (f2 : Bool) (f3 : Bool) (f4 : Int) (f5 : Int) (f6 : Int) (f7 : Int) (f8 : Int) (f9 : Int) (er : Int) (q' : CS) (W : World) (h : Cu w0 g q W) (hf : formatC q = some ((f0, f1, f2, f3, f4, f5, f6, f7, f8, f9, er), q')) :
    Calls Try.prog 34 #[.agg #[.pointer (some ⟨g, 0, none⟩)]] W fun e W' => e = .returned (.tuple #[.agg #[.int .i64 0, .bool false, .int .i64 0, .int .i64 0, .int .i64 0, .int .i64 0, .int .i64 0, .int .i64 f0, .int .i64 f1, .bool f2, .bool f3, .int .i64 f4, .int .i64 f5, .int .i64 f6, .int .i64 f7, .int .i64 f8, .int .i64 f9, .slice none 0 0, .string ⟨#[]⟩], .int .i64 er]) ∧ Cu w0 g q' W' ∧ KeptC g W W' := by
  unfold formatC at hf
  obtain ⟨⟨b0, q1⟩, e0, hf⟩ := Option.bind_eq_some_iff.1 hf
  obtain ⟨⟨b1, q2⟩, e1, hf⟩ := Option.bind_eq_some_iff.1 hf
  have E0 := Lib.hid e0
  have E1 := Lib.hid e1
  have HF := Lib.hid hf
  clear e0 e1 hf
  have hb := below_alloc (below_alloc (Below.refl W.heap.size W) (.cells #[.pointer (some ⟨g, 0, none⟩)] 48)) (.cells #[.int .i64 0, .bool false, .int .i64 0, .int .i64 0, .int .i64 0, .int .i64 0, .int .i64 0, .int .i64 0, .int .i64 0, .bool false, .bool false, .int .i64 0, .int .i64 0, .int .i64 0, .int .i64 0, .int .i64 0, .int .i64 0, .slice none 0 0, .string ⟨#[]⟩] 30)
  obtain ⟨Wa, hWa⟩ : ∃ X, (W.alloc (.cells #[.pointer (some ⟨g, 0, none⟩)] 48)).alloc (.cells #[.int .i64 0, .bool false, .int .i64 0, .int .i64 0, .int .i64 0, .int .i64 0, .int .i64 0, .int .i64 0, .int .i64 0, .bool false, .bool false, .int .i64 0, .int .i64 0, .int .i64 0, .int .i64 0, .int .i64 0, .int .i64 0, .slice none 0 0, .string ⟨#[]⟩] 30) = X := ⟨_, rfl⟩
  have HYa := Lib.hid (show Wa.heap[W.heap.size + 1]? = some (.cells #[.int .i64 0, .bool false, .int .i64 0, .int .i64 0, .int .i64 0, .int .i64 0, .int .i64 0, .int .i64 0, .int .i64 0, .bool false, .bool false, .int .i64 0, .int .i64 0, .int .i64 0, .int .i64 0, .int .i64 0, .int .i64 0, .slice none 0 0, .string ⟨#[]⟩] 30 (0, 0)) from by rw [← hWa]; have h0 := heap_alloc_new (W.alloc (.cells #[.pointer (some ⟨g, 0, none⟩)] 48)) (.cells #[.int .i64 0, .bool false, .int .i64 0, .int .i64 0, .int .i64 0, .int .i64 0, .int .i64 0, .int .i64 0, .int .i64 0, .bool false, .bool false, .int .i64 0, .int .i64 0, .int .i64 0, .int .i64 0, .int .i64 0, .int .i64 0, .slice none 0 0, .string ⟨#[]⟩] 30); rwa [World.size_alloc] at h0)
  have HXa := Lib.hid (show Wa.heap[W.heap.size]? = some (.cells #[.pointer (some ⟨g, 0, none⟩)] 48 (0, 0)) from by rw [← hWa]; exact (Below.heap_alloc _ _ _ (by simp)).trans (heap_alloc_new W _))
  rw [hWa] at hb
  have HCa := Lib.hid (h.below hb)
  have HKa := Lib.hid (KeptC.below (g := g) hb)
  have nb0 : W.heap.size ≠ g := by have := h.lt; omega
  have nb1 : W.heap.size + 1 ≠ g := by have := h.lt; omega
  have ne01 : W.heap.size ≠ W.heap.size + 1 := by omega
  have hge : w0.heap.size ≤ W.heap.size + 1 := by have := h.low.size; omega
  have HGE := Lib.hid hge
  have y0 : Wa.cell? ⟨W.heap.size, 0, none⟩ = some (.pointer (some ⟨g, 0, none⟩)) := (blk_cell HXa.out 0).trans rfl
  clear hb h hge
  go_enter Try.func34, Try.ntmps34
  go_upto_region 1 with (fail)
  try rw [hWa]
  clear hWa
  go_wp2_with fail
  refine (bytes_k w0 g q 3 b0 q1 Wa HCa.out E0.out).mono ?_
  rintro en W1 ⟨rfl, h1, hk⟩
  have HC1 := Lib.hid h1
  have HX1 := Lib.hid (hk.blk HXa.out nb0)
  have HY1 := Lib.hid (hk.blk HYa.out nb1)
  have HK1 := Lib.hid (HKa.out.trans hk)
  have y1 : W1.cell? ⟨W.heap.size, 0, none⟩ = some (.pointer (some ⟨g, 0, none⟩)) := (blk_cell HX1.out 0).trans rfl
  have hr1 : rowAt W1 (W.heap.size + 1) 30 19 = true := rowAt_of HY1.out rfl
  clear h1 hk y0
  go_wp2_with fail
  refine (bytes_k w0 g q1 16 b1 q2 W1 HC1.out E1.out).mono ?_
  rintro en W2 ⟨rfl, h1, hk⟩
  have HC2 := Lib.hid h1
  have HX2 := Lib.hid (hk.blk HX1.out nb0)
  have HY2 := Lib.hid (hk.blk HY1.out nb1)
  have HK2 := Lib.hid (HK1.out.trans hk)
  have y2 : W2.cell? ⟨W.heap.size, 0, none⟩ = some (.pointer (some ⟨g, 0, none⟩)) := (blk_cell HX2.out 0).trans rfl
  have hr2 : rowAt W2 (W.heap.size + 1) 30 19 = true := rowAt_of HY2.out rfl
  clear h1 hk y1 hr1
  go_wp2_with fail
  refine (err_k w0 g q2 W2 HC2.out).mono ?_
  rintro en W3 ⟨rfl, hw⟩
  rw [hw]
  clear hw
  have hf := HF.out
  try dsimp only at hf
  clear HF
  by_cases hc : q2.ce = 0
  · rw [if_pos hc] at hf
    obtain ⟨⟨u0, u1, u2, u3, u4, u5, u6, u7, u8, u9, ue⟩, e2, hf⟩ := Option.map_eq_some_iff.1 hf
    obtain ⟨⟨rfl, rfl, rfl, rfl, rfl, rfl, rfl, rfl, rfl, rfl, rfl⟩, rfl⟩ : (u0 = f0 ∧ u1 = f1 ∧ u2 = f2 ∧ u3 = f3 ∧ u4 = f4 ∧ u5 = f5 ∧ u6 = f6 ∧ u7 = f7 ∧ u8 = f8 ∧ u9 = f9 ∧ ue = er) ∧ q2 = q' := by simpa using hf
    have d1 : (q2.ce != 0) = false := by simpa using hc
    have E2 := Lib.hid e2
    clear hf hc e2
    go_wp2_with fail
    refine (format_Parse.calls b1 u0 u1 u2 u3 u4 u5 u6 u7 u8 u9 ue W2 E2.out).mono ?_
    rintro en W4 ⟨rfl, hb⟩
    have hrn : rowAt (W4.alloc (.cells #[.int .i64 0, .int .i64 0, .bool false, .bool false, .int .i64 0, .int .i64 0, .int .i64 0, .int .i64 0, .int .i64 0, .int .i64 0] 27)) W4.heap.size 27 10 = true := rowAt_of (heap_alloc_new W4 _) rfl
    obtain ⟨Wb, hWb⟩ : ∃ X, (W4.alloc (.cells #[.int .i64 0, .int .i64 0, .bool false, .bool false, .int .i64 0, .int .i64 0, .int .i64 0, .int .i64 0, .int .i64 0, .int .i64 0] 27)).setRow W4.heap.size #[.int .i64 u0, .int .i64 u1, .bool u2, .bool u3, .int .i64 u4, .int .i64 u5, .int .i64 u6, .int .i64 u7, .int .i64 u8, .int .i64 u9] = X := ⟨_, rfl⟩
    have hbz := hb.trans ((below_alloc (Below.refl W4.heap.size W4) (.cells #[.int .i64 0, .int .i64 0, .bool false, .bool false, .int .i64 0, .int .i64 0, .int .i64 0, .int .i64 0, .int .i64 0, .int .i64 0] 27)).mono hb.size)
    have hs1 := blk_lt HY2.out
    have hs4 := hb.size
    have nkg : W4.heap.size ≠ g := by have := HC2.out.lt; omega
    have nk1 : W.heap.size + 1 ≠ W4.heap.size := by omega
    have hge1 : w0.heap.size ≤ W4.heap.size := Nat.le_trans HC2.out.low.size hb.size
    have HCb := Lib.hid (show Cu w0 g q2 Wb from by rw [← hWb]; exact (HC2.out.below hbz).row nkg hge1 _)
    have HYb := Lib.hid (show Wb.heap[W.heap.size + 1]? = some (.cells #[.int .i64 0, .bool false, .int .i64 0, .int .i64 0, .int .i64 0, .int .i64 0, .int .i64 0, .int .i64 0, .int .i64 0, .bool false, .bool false, .int .i64 0, .int .i64 0, .int .i64 0, .int .i64 0, .int .i64 0, .int .i64 0, .slice none 0 0, .string ⟨#[]⟩] 30 (0, 0)) from by rw [← hWb]; exact (setRow_other _ _ _ _ nk1).trans (blk_below HY2.out hbz))
    have HZb := Lib.hid (show Wb.heap[W4.heap.size]? = some (.cells #[.int .i64 u0, .int .i64 u1, .bool u2, .bool u3, .int .i64 u4, .int .i64 u5, .int .i64 u6, .int .i64 u7, .int .i64 u8, .int .i64 u9] 27 (0, 0)) from by rw [← hWb]; exact setRow_heap _ _ _ _ _ _ (heap_alloc_new W4 _))
    have HKb := Lib.hid (show KeptC g W Wb from by rw [← hWb]; exact (HK2.out.trans (KeptC.below hbz)).row (by omega) _)
    go_upto_region 7 with (fail)
    try rw [hWb]
    clear hWb hrn hbz hb y2 hr2
    have a1 : rowAt Wb W4.heap.size 27 10 = true := rowAt_of HZb.out rfl
    have a2 : cellsAt Wb W4.heap.size = #[.int .i64 u0, .int .i64 u1, .bool u2, .bool u3, .int .i64 u4, .int .i64 u5, .int .i64 u6, .int .i64 u7, .int .i64 u8, .int .i64 u9] := cellsAt_of HZb.out
    have a3 : rowAt Wb (W.heap.size + 1) 30 19 = true := rowAt_of HYb.out rfl
    have HYz := Lib.hid (setRow_heap Wb (W.heap.size + 1) _ #[.int .i64 0, .bool false, .int .i64 0, .int .i64 0, .int .i64 0, .int .i64 0, .int .i64 0, .int .i64 u0, .int .i64 u1, .bool u2, .bool u3, .int .i64 u4, .int .i64 u5, .int .i64 u6, .int .i64 u7, .int .i64 u8, .int .i64 u9, .slice none 0 0, .string ⟨#[]⟩] _ _ HYb.out)
    have HCz := Lib.hid (HCb.out.row nb1 HGE.out #[.int .i64 0, .bool false, .int .i64 0, .int .i64 0, .int .i64 0, .int .i64 0, .int .i64 0, .int .i64 u0, .int .i64 u1, .bool u2, .bool u3, .int .i64 u4, .int .i64 u5, .int .i64 u6, .int .i64 u7, .int .i64 u8, .int .i64 u9, .slice none 0 0, .string ⟨#[]⟩])
    have HKz := Lib.hid (show KeptC g W _ from HKb.out.row (k := W.heap.size + 1) (by omega) #[.int .i64 0, .bool false, .int .i64 0, .int .i64 0, .int .i64 0, .int .i64 0, .int .i64 0, .int .i64 u0, .int .i64 u1, .bool u2, .bool u3, .int .i64 u4, .int .i64 u5, .int .i64 u6, .int .i64 u7, .int .i64 u8, .int .i64 u9, .slice none 0 0, .string ⟨#[]⟩])
    go_wp2_with fail
    refine bodyPost_ret (results_ct rfl _ _ (W.heap.size + 1) 30 #[.int .i64 0, .bool false, .int .i64 0, .int .i64 0, .int .i64 0, .int .i64 0, .int .i64 0, .int .i64 u0, .int .i64 u1, .bool u2, .bool u3, .int .i64 u4, .int .i64 u5, .int .i64 u6, .int .i64 u7, .int .i64 u8, .int .i64 u9, .slice none 0 0, .string ⟨#[]⟩] (0, 0) _ rfl (by with_reducible exact HYz.out) Try.underlying30 rfl (by kernel_rfl)) rfl ?_
    exact ⟨rfl, HCz.out, HKz.out⟩
  · rw [if_neg hc] at hf
    obtain ⟨⟨rfl, rfl, rfl, rfl, rfl, rfl, rfl, rfl, rfl, rfl, rfl⟩, rfl⟩ : ((0 : Int) = f0 ∧ (0 : Int) = f1 ∧ (false : Bool) = f2 ∧ (false : Bool) = f3 ∧ (0 : Int) = f4 ∧ (0 : Int) = f5 ∧ (0 : Int) = f6 ∧ (0 : Int) = f7 ∧ (0 : Int) = f8 ∧ (0 : Int) = f9 ∧ q2.ce = er) ∧ q2 = q' := by simpa using hf
    have d1 : (q2.ce != 0) = true := by simpa using hc
    clear hf hc
    have HYz := Lib.hid (setRow_heap W2 (W.heap.size + 1) _ #[.int .i64 0, .bool false, .int .i64 0, .int .i64 0, .int .i64 0, .int .i64 0, .int .i64 0, .int .i64 0, .int .i64 0, .bool false, .bool false, .int .i64 0, .int .i64 0, .int .i64 0, .int .i64 0, .int .i64 0, .int .i64 0, .slice none 0 0, .string ⟨#[]⟩] _ _ HY2.out)
    have HCz := Lib.hid (HC2.out.row nb1 HGE.out #[.int .i64 0, .bool false, .int .i64 0, .int .i64 0, .int .i64 0, .int .i64 0, .int .i64 0, .int .i64 0, .int .i64 0, .bool false, .bool false, .int .i64 0, .int .i64 0, .int .i64 0, .int .i64 0, .int .i64 0, .int .i64 0, .slice none 0 0, .string ⟨#[]⟩])
    have HKz := Lib.hid (show KeptC g W _ from HK2.out.row (k := W.heap.size + 1) (by omega) #[.int .i64 0, .bool false, .int .i64 0, .int .i64 0, .int .i64 0, .int .i64 0, .int .i64 0, .int .i64 0, .int .i64 0, .bool false, .bool false, .int .i64 0, .int .i64 0, .int .i64 0, .int .i64 0, .int .i64 0, .int .i64 0, .slice none 0 0, .string ⟨#[]⟩])
    go_wp2_with fail
    refine bodyPost_ret (results_ct rfl _ _ (W.heap.size + 1) 30 #[.int .i64 0, .bool false, .int .i64 0, .int .i64 0, .int .i64 0, .int .i64 0, .int .i64 0, .int .i64 0, .int .i64 0, .bool false, .bool false, .int .i64 0, .int .i64 0, .int .i64 0, .int .i64 0, .int .i64 0, .int .i64 0, .slice none 0 0, .string ⟨#[]⟩] (0, 0) _ rfl (by with_reducible exact HYz.out) Try.underlying30 rfl (by kernel_rfl)) rfl ?_
    exact ⟨rfl, HCz.out, HKz.out⟩
end

end Go.Proofs.Ytclikkhkhoicfaa.X
