/- What each Go function that these laws use answers: as a Lean function, with the proof that the machine's call comes to it. Written by a program of this session (xprint.py). -/
import Derived.Test.YtclikkhkhoicfaaXx0
import Derived.Test.YtclikkhkhoicfaaXx7
import Derived.Test.YtclikkhkhoicfaaXx14
import Derived.Test.YtclikkhkhoicfaaXx15
namespace Go.Proofs.Ytclikkhkhoicfaa.X
open Go.RowKit Go.Proofs.YtclikkhkhoicfaaW.PrintWords Go.Proofs.YtclikkhkhoicfaaW.PrintLast Go.Proofs.YtclikkhkhoicfaaW.PrintMore
attribute [local go_sem] max2_int min2_int max_two min_two max_three min_three max_four min_four   -- for this text's walks alone
set_option linter.unusedVariables false
set_option linter.unusedSimpArgs false

/-! ### clientmsg_reader_key: function 37 -/
def keyC (q : CS) : Option ((Bool × Int) × CS) := (flagC q).bind fun a => (bytesC a.2 2).bind fun b => (intC b.2 4).bind fun n => some ((a.1, n.1), n.2)
section
attribute [local go_sem ↓] exec_store_msg exec_load_msg
attribute [local go_sem] store_msg load_msg
set_option maxHeartbeats 4000000 in
set_option maxRecDepth 100000 in
theorem key_k (w0 : World) (g : Nat) (q : CS) (f : Bool) (n : Int) (q' : CS) (W : World) (h : Cu w0 g q W) (hf : keyC q = some ((f, n), q')) :
    Calls Try.prog 37 #[.agg #[.pointer (some ⟨g, 0, none⟩)]] W fun e W' => e = .returned (.tuple #[.agg #[.int .i64 3, .bool f, .int .i64 n, .int .i64 0, .int .i64 0, .int .i64 0, .int .i64 0, .int .i64 0, .int .i64 0, .bool false, .bool false, .int .i64 0, .int .i64 0, .int .i64 0, .int .i64 0, .int .i64 0, .int .i64 0, .slice none 0 0, .string ⟨#[]⟩], .int .i64 0]) ∧ Cu w0 g q' W' ∧ KeptC g W W' := by
  unfold keyC at hf
  obtain ⟨⟨f0, q1⟩, e0, hf⟩ := Option.bind_eq_some_iff.1 hf
  obtain ⟨⟨b0, q2⟩, e1, hf⟩ := Option.bind_eq_some_iff.1 hf
  obtain ⟨⟨m, q3⟩, e2, hf⟩ := Option.bind_eq_some_iff.1 hf
  obtain ⟨⟨rfl, rfl⟩, rfl⟩ : (f0 = f ∧ m = n) ∧ q3 = q' := by simpa using hf
  have E0 := Lib.hid e0
  have E1 := Lib.hid e1
  have E2 := Lib.hid e2
  clear e0 e1 e2 hf
  have hb := below_alloc (below_alloc (Below.refl W.heap.size W) (.cells #[.pointer (some ⟨g, 0, none⟩)] 48)) (.cells #[.int .i64 0, .bool false, .int .i64 0, .int .i64 0, .int .i64 0, .int .i64 0, .int .i64 0, .int .i64 0, .int .i64 0, .bool false, .bool false, .int .i64 0, .int .i64 0, .int .i64 0, .int .i64 0, .int .i64 0, .int .i64 0, .slice none 0 0, .string ⟨#[]⟩] 30)
  obtain ⟨Wa, hWa⟩ : ∃ X, (W.alloc (.cells #[.pointer (some ⟨g, 0, none⟩)] 48)).alloc (.cells #[.int .i64 0, .bool false, .int .i64 0, .int .i64 0, .int .i64 0, .int .i64 0, .int .i64 0, .int .i64 0, .int .i64 0, .bool false, .bool false, .int .i64 0, .int .i64 0, .int .i64 0, .int .i64 0, .int .i64 0, .int .i64 0, .slice none 0 0, .string ⟨#[]⟩] 30) = X := ⟨_, rfl⟩
  have HYa := Lib.hid (show Wa.heap[W.heap.size + 1]? = some (.cells #[.int .i64 0, .bool false, .int .i64 0, .int .i64 0, .int .i64 0, .int .i64 0, .int .i64 0, .int .i64 0, .int .i64 0, .bool false, .bool false, .int .i64 0, .int .i64 0, .int .i64 0, .int .i64 0, .int .i64 0, .int .i64 0, .slice none 0 0, .string ⟨#[]⟩] 30 (0, 0)) from by rw [← hWa]; have h0 := heap_alloc_new (W.alloc (.cells #[.pointer (some ⟨g, 0, none⟩)] 48)) (.cells #[.int .i64 0, .bool false, .int .i64 0, .int .i64 0, .int .i64 0, .int .i64 0, .int .i64 0, .int .i64 0, .int .i64 0, .bool false, .bool false, .int .i64 0, .int .i64 0, .int .i64 0, .int .i64 0, .int .i64 0, .int .i64 0, .slice none 0 0, .string ⟨#[]⟩] 30); rwa [World.size_alloc] at h0)
  have HXa := Lib.hid (show Wa.heap[W.heap.size]? = some (.cells #[.pointer (some ⟨g, 0, none⟩)] 48 (0, 0)) from by rw [← hWa]; exact (Below.heap_alloc _ _ _ (by simp)).trans (heap_alloc_new W _))
  rw [hWa] at hb
  have HCa := Lib.hid (h.below hb)
  have HKa := Lib.hid (KeptC.below (g := g) hb)
  have nb0 : W.heap.size ≠ g := by have := h.lt; omega
  have nb1 : W.heap.size + 1 ≠ g := by have := h.lt; omega
  have ne01 : W.heap.size ≠ W.heap.size + 1 := by omega
  have hge : w0.heap.size ≤ W.heap.size + 1 := by have := h.low.size; omega
  have HGE := Lib.hid hge
  have y0 : Wa.cell? ⟨W.heap.size, 0, none⟩ = some (.pointer (some ⟨g, 0, none⟩)) := (blk_cell HXa.out 0).trans rfl
  clear hb h hge
  go_enter Try.func37, Try.ntmps37
  go_upto_region 1 with (fail)
  try rw [hWa]
  clear hWa
  go_wp2_with fail
  refine (flag_k w0 g q f0 q1 Wa HCa.out E0.out).mono ?_
  rintro en W1 ⟨rfl, h1, hk⟩
  have HX1 := Lib.hid (hk.blk HXa.out nb0)
  have HY1 := Lib.hid (hk.blk HYa.out nb1)
  have hrn : rowAt (W1.alloc (.cells #[.int .i64 0, .bool false, .int .i64 0, .int .i64 0, .int .i64 0, .int .i64 0, .int .i64 0, .int .i64 0, .int .i64 0, .bool false, .bool false, .int .i64 0, .int .i64 0, .int .i64 0, .int .i64 0, .int .i64 0, .int .i64 0, .slice none 0 0, .string ⟨#[]⟩] 30)) W1.heap.size 30 19 = true := rowAt_of (heap_alloc_new W1 _) rfl
  obtain ⟨Wb, hWb⟩ : ∃ X, (W1.alloc (.cells #[.int .i64 0, .bool false, .int .i64 0, .int .i64 0, .int .i64 0, .int .i64 0, .int .i64 0, .int .i64 0, .int .i64 0, .bool false, .bool false, .int .i64 0, .int .i64 0, .int .i64 0, .int .i64 0, .int .i64 0, .int .i64 0, .slice none 0 0, .string ⟨#[]⟩] 30)).setRow W1.heap.size #[.int .i64 3, .bool f0, .int .i64 0, .int .i64 0, .int .i64 0, .int .i64 0, .int .i64 0, .int .i64 0, .int .i64 0, .bool false, .bool false, .int .i64 0, .int .i64 0, .int .i64 0, .int .i64 0, .int .i64 0, .int .i64 0, .slice none 0 0, .string ⟨#[]⟩] = X := ⟨_, rfl⟩
  have hbz := below_alloc (Below.refl W1.heap.size W1) (.cells #[.int .i64 0, .bool false, .int .i64 0, .int .i64 0, .int .i64 0, .int .i64 0, .int .i64 0, .int .i64 0, .int .i64 0, .bool false, .bool false, .int .i64 0, .int .i64 0, .int .i64 0, .int .i64 0, .int .i64 0, .int .i64 0, .slice none 0 0, .string ⟨#[]⟩] 30)
  have hs0 := blk_lt HX1.out
  have hs1 := blk_lt HY1.out
  have nkg : W1.heap.size ≠ g := by have := h1.lt; omega
  have nk0 : W.heap.size ≠ W1.heap.size := by omega
  have nk1 : W.heap.size + 1 ≠ W1.heap.size := by omega
  have hge1 : w0.heap.size ≤ W1.heap.size := h1.low.size
  have HCb := Lib.hid (show Cu w0 g q1 Wb from by rw [← hWb]; exact (h1.below hbz).row nkg hge1 _)
  have HXb := Lib.hid (show Wb.heap[W.heap.size]? = some (.cells #[.pointer (some ⟨g, 0, none⟩)] 48 (0, 0)) from by rw [← hWb]; exact (setRow_other _ _ _ _ nk0).trans (blk_below HX1.out hbz))
  have HYb := Lib.hid (show Wb.heap[W.heap.size + 1]? = some (.cells #[.int .i64 0, .bool false, .int .i64 0, .int .i64 0, .int .i64 0, .int .i64 0, .int .i64 0, .int .i64 0, .int .i64 0, .bool false, .bool false, .int .i64 0, .int .i64 0, .int .i64 0, .int .i64 0, .int .i64 0, .int .i64 0, .slice none 0 0, .string ⟨#[]⟩] 30 (0, 0)) from by rw [← hWb]; exact (setRow_other _ _ _ _ nk1).trans (blk_below HY1.out hbz))
  have HZb := Lib.hid (show Wb.heap[W1.heap.size]? = some (.cells #[.int .i64 3, .bool f0, .int .i64 0, .int .i64 0, .int .i64 0, .int .i64 0, .int .i64 0, .int .i64 0, .int .i64 0, .bool false, .bool false, .int .i64 0, .int .i64 0, .int .i64 0, .int .i64 0, .int .i64 0, .int .i64 0, .slice none 0 0, .string ⟨#[]⟩] 30 (0, 0)) from by rw [← hWb]; exact setRow_heap _ _ _ _ _ _ (heap_alloc_new W1 _))
  have HKb := Lib.hid (show KeptC g W Wb from by rw [← hWb]; exact ((HKa.out.trans hk).trans (KeptC.below hbz)).row (by omega) _)
  have HG1 := Lib.hid hge1
  go_upto_region 2 with (fail)
  try rw [hWb]
  clear hWb y0 hrn hbz h1 hk
  obtain ⟨kk, hkk⟩ : ∃ kk, W1.heap.size = kk := ⟨_, rfl⟩
  rw [hkk] at HZb nkg nk0 nk1 HG1 hs0 hs1 hge1 ⊢
  clear hkk
  have y0 : Wb.cell? ⟨W.heap.size, 0, none⟩ = some (.pointer (some ⟨g, 0, none⟩)) := (blk_cell HXb.out 0).trans rfl
  go_wp2_with fail
  refine (bytes_k w0 g q1 2 b0 q2 Wb HCb.out E1.out).mono ?_
  rintro en V1 ⟨rfl, h1, hk⟩
  have HC1 := Lib.hid h1
  have HX1 := Lib.hid (hk.blk HXb.out nb0)
  have HY1 := Lib.hid (hk.blk HYb.out nb1)
  have HZ1 := Lib.hid (hk.blk HZb.out nkg)
  have HK1 := Lib.hid (HKb.out.trans hk)
  clear h1 hk y0
  have y1 : V1.cell? ⟨W.heap.size, 0, none⟩ = some (.pointer (some ⟨g, 0, none⟩)) := (blk_cell HX1.out 0).trans rfl
  go_wp2_with fail
  refine (int_k w0 g q2 4 m q3 V1 HC1.out E2.out).mono ?_
  rintro en V2 ⟨rfl, h1, hk⟩
  have HC2 := Lib.hid h1
  have HX2 := Lib.hid (hk.blk HX1.out nb0)
  have HY2 := Lib.hid (hk.blk HY1.out nb1)
  have HZ2 := Lib.hid (hk.blk HZ1.out nkg)
  have HK2 := Lib.hid (HK1.out.trans hk)
  clear h1 hk y1
  have y2 : V2.cell? ⟨W.heap.size, 0, none⟩ = some (.pointer (some ⟨g, 0, none⟩)) := (blk_cell HX2.out 0).trans rfl
  have z2 : V2.cell? ⟨kk, 2, none⟩ = some (.int .i64 0) := (blk_cell HZ2.out 2).trans rfl
  have f2 : V2.frozen? ⟨kk, 2, none⟩ = false := blk_frozen HZ2.out _
  obtain ⟨V3, hV3⟩ : ∃ X, V2.setCell ⟨kk, 2, none⟩ (.int .i64 m) = X := ⟨_, rfl⟩
  have HZ3 := Lib.hid (show V3.heap[kk]? = some (.cells #[.int .i64 3, .bool f0, .int .i64 m, .int .i64 0, .int .i64 0, .int .i64 0, .int .i64 0, .int .i64 0, .int .i64 0, .bool false, .bool false, .int .i64 0, .int .i64 0, .int .i64 0, .int .i64 0, .int .i64 0, .int .i64 0, .slice none 0 0, .string ⟨#[]⟩] 30 (0, 0)) from by rw [← hV3]; exact blk_put (cs' := #[.int .i64 3, .bool f0, .int .i64 m, .int .i64 0, .int .i64 0, .int .i64 0, .int .i64 0, .int .i64 0, .int .i64 0, .bool false, .bool false, .int .i64 0, .int .i64 0, .int .i64 0, .int .i64 0, .int .i64 0, .int .i64 0, .slice none 0 0, .string ⟨#[]⟩]) HZ2.out 2 (.int .i64 m) rfl)
  have HY3 := Lib.hid (show V3.heap[W.heap.size + 1]? = some (.cells #[.int .i64 0, .bool false, .int .i64 0, .int .i64 0, .int .i64 0, .int .i64 0, .int .i64 0, .int .i64 0, .int .i64 0, .bool false, .bool false, .int .i64 0, .int .i64 0, .int .i64 0, .int .i64 0, .int .i64 0, .int .i64 0, .slice none 0 0, .string ⟨#[]⟩] 30 (0, 0)) from by rw [← hV3]; exact blk_far HY2.out nk1 _)
  have HC3 := Lib.hid (show Cu w0 g q3 V3 from by rw [← hV3]; exact HC2.out.far (p := ⟨kk, 2, none⟩) nkg HG1.out _)
  have HK3 := Lib.hid (show KeptC g W V3 from by rw [← hV3]; exact HK2.out.set (p := ⟨kk, 2, none⟩) (by show W.heap.size ≤ kk; omega) _)
  go_upto_region 4 with (fail)
  try rw [hV3]
  clear hV3 z2 f2 y2
  have a1 : rowAt V3 kk 30 19 = true := rowAt_of HZ3.out rfl
  have a2 : cellsAt V3 kk = #[.int .i64 3, .bool f0, .int .i64 m, .int .i64 0, .int .i64 0, .int .i64 0, .int .i64 0, .int .i64 0, .int .i64 0, .bool false, .bool false, .int .i64 0, .int .i64 0, .int .i64 0, .int .i64 0, .int .i64 0, .int .i64 0, .slice none 0 0, .string ⟨#[]⟩] := cellsAt_of HZ3.out
  have a3 : rowAt V3 (W.heap.size + 1) 30 19 = true := rowAt_of HY3.out rfl
  have HYz := Lib.hid (setRow_heap V3 (W.heap.size + 1) _ #[.int .i64 3, .bool f0, .int .i64 m, .int .i64 0, .int .i64 0, .int .i64 0, .int .i64 0, .int .i64 0, .int .i64 0, .bool false, .bool false, .int .i64 0, .int .i64 0, .int .i64 0, .int .i64 0, .int .i64 0, .int .i64 0, .slice none 0 0, .string ⟨#[]⟩] _ _ HY3.out)
  have HCz := Lib.hid (HC3.out.row nb1 HGE.out #[.int .i64 3, .bool f0, .int .i64 m, .int .i64 0, .int .i64 0, .int .i64 0, .int .i64 0, .int .i64 0, .int .i64 0, .bool false, .bool false, .int .i64 0, .int .i64 0, .int .i64 0, .int .i64 0, .int .i64 0, .int .i64 0, .slice none 0 0, .string ⟨#[]⟩])
  have HKz := Lib.hid (show KeptC g W _ from HK3.out.row (k := W.heap.size + 1) (by omega) #[.int .i64 3, .bool f0, .int .i64 m, .int .i64 0, .int .i64 0, .int .i64 0, .int .i64 0, .int .i64 0, .int .i64 0, .bool false, .bool false, .int .i64 0, .int .i64 0, .int .i64 0, .int .i64 0, .int .i64 0, .int .i64 0, .slice none 0 0, .string ⟨#[]⟩])
  go_wp2_with fail
  refine bodyPost_ret (results_ct rfl _ _ (W.heap.size + 1) 30 #[.int .i64 3, .bool f0, .int .i64 m, .int .i64 0, .int .i64 0, .int .i64 0, .int .i64 0, .int .i64 0, .int .i64 0, .bool false, .bool false, .int .i64 0, .int .i64 0, .int .i64 0, .int .i64 0, .int .i64 0, .int .i64 0, .slice none 0 0, .string ⟨#[]⟩] (0, 0) _ rfl (by with_reducible exact HYz.out) Try.underlying30 rfl (by kernel_rfl)) rfl ?_
  exact ⟨rfl, HCz.out, HKz.out⟩
end

/-! ### clientmsg_reader_pointer: function 38 -/
def pointerC (q : CS) : Option ((Int × Int × Int) × CS) := (intC q 1).bind fun a => (placeC a.2).bind fun b => some ((a.1, b.1.1, b.1.2), b.2)
section
attribute [local go_sem ↓] exec_store_msg exec_load_msg
attribute [local go_sem] store_msg load_msg
set_option maxHeartbeats 4000000 in
set_option maxRecDepth 100000 in
theorem pointer_k (w0 : World) (g : Nat) (q : CS) (n u0 u1 : Int) (q' : CS) (W : World) (h : Cu w0 g q W) (hf : pointerC q = some ((n, u0, u1), q')) :
    Calls Try.prog 38 #[.agg #[.pointer (some ⟨g, 0, none⟩)]] W fun e W' => e = .returned (.tuple #[.agg #[.int .i64 4, .bool false, .int .i64 n, .int .i64 u0, .int .i64 u1, .int .i64 0, .int .i64 0, .int .i64 0, .int .i64 0, .bool false, .bool false, .int .i64 0, .int .i64 0, .int .i64 0, .int .i64 0, .int .i64 0, .int .i64 0, .slice none 0 0, .string ⟨#[]⟩], .int .i64 0]) ∧ Cu w0 g q' W' ∧ KeptC g W W' := by
  unfold pointerC at hf
  obtain ⟨⟨m, q1⟩, e0, hf⟩ := Option.bind_eq_some_iff.1 hf
  obtain ⟨⟨⟨v0, v1⟩, q2⟩, e1, hf⟩ := Option.bind_eq_some_iff.1 hf
  obtain ⟨⟨rfl, rfl, rfl⟩, rfl⟩ : (m = n ∧ v0 = u0 ∧ v1 = u1) ∧ q2 = q' := by simpa using hf
  have E0 := Lib.hid e0
  have E1 := Lib.hid e1
  clear e0 e1 hf
  have hb := below_alloc (below_alloc (Below.refl W.heap.size W) (.cells #[.pointer (some ⟨g, 0, none⟩)] 48)) (.cells #[.int .i64 0, .bool false, .int .i64 0, .int .i64 0, .int .i64 0, .int .i64 0, .int .i64 0, .int .i64 0, .int .i64 0, .bool false, .bool false, .int .i64 0, .int .i64 0, .int .i64 0, .int .i64 0, .int .i64 0, .int .i64 0, .slice none 0 0, .string ⟨#[]⟩] 30)
  obtain ⟨Wa, hWa⟩ : ∃ X, (W.alloc (.cells #[.pointer (some ⟨g, 0, none⟩)] 48)).alloc (.cells #[.int .i64 0, .bool false, .int .i64 0, .int .i64 0, .int .i64 0, .int .i64 0, .int .i64 0, .int .i64 0, .int .i64 0, .bool false, .bool false, .int .i64 0, .int .i64 0, .int .i64 0, .int .i64 0, .int .i64 0, .int .i64 0, .slice none 0 0, .string ⟨#[]⟩] 30) = X := ⟨_, rfl⟩
  have HYa := Lib.hid (show Wa.heap[W.heap.size + 1]? = some (.cells #[.int .i64 0, .bool false, .int .i64 0, .int .i64 0, .int .i64 0, .int .i64 0, .int .i64 0, .int .i64 0, .int .i64 0, .bool false, .bool false, .int .i64 0, .int .i64 0, .int .i64 0, .int .i64 0, .int .i64 0, .int .i64 0, .slice none 0 0, .string ⟨#[]⟩] 30 (0, 0)) from by rw [← hWa]; have h0 := heap_alloc_new (W.alloc (.cells #[.pointer (some ⟨g, 0, none⟩)] 48)) (.cells #[.int .i64 0, .bool false, .int .i64 0, .int .i64 0, .int .i64 0, .int .i64 0, .int .i64 0, .int .i64 0, .int .i64 0, .bool false, .bool false, .int .i64 0, .int .i64 0, .int .i64 0, .int .i64 0, .int .i64 0, .int .i64 0, .slice none 0 0, .string ⟨#[]⟩] 30); rwa [World.size_alloc] at h0)
  have HXa := Lib.hid (show Wa.heap[W.heap.size]? = some (.cells #[.pointer (some ⟨g, 0, none⟩)] 48 (0, 0)) from by rw [← hWa]; exact (Below.heap_alloc _ _ _ (by simp)).trans (heap_alloc_new W _))
  rw [hWa] at hb
  have HCa := Lib.hid (h.below hb)
  have HKa := Lib.hid (KeptC.below (g := g) hb)
  have nb0 : W.heap.size ≠ g := by have := h.lt; omega
  have nb1 : W.heap.size + 1 ≠ g := by have := h.lt; omega
  have ne01 : W.heap.size ≠ W.heap.size + 1 := by omega
  have hge : w0.heap.size ≤ W.heap.size + 1 := by have := h.low.size; omega
  have HGE := Lib.hid hge
  have y0 : Wa.cell? ⟨W.heap.size, 0, none⟩ = some (.pointer (some ⟨g, 0, none⟩)) := (blk_cell HXa.out 0).trans rfl
  clear hb h hge
  go_enter Try.func38, Try.ntmps38
  go_upto_region 1 with (fail)
  try rw [hWa]
  clear hWa
  go_cut [3] (fun s3 wx => s3 = .int .i64 0 ∧ Hid (wx.heap[W.heap.size + 1]? = some (.cells #[.int .i64 4, .bool false, .int .i64 m, .int .i64 v0, .int .i64 v1, .int .i64 0, .int .i64 0, .int .i64 0, .int .i64 0, .bool false, .bool false, .int .i64 0, .int .i64 0, .int .i64 0, .int .i64 0, .int .i64 0, .int .i64 0, .slice none 0 0, .string ⟨#[]⟩] 30 (0, 0))) ∧ Hid (Cu w0 g q2 wx) ∧ Hid (KeptC g W wx))
  case first =>
    go_region_held3 (fun w' => w'.cell? ⟨W.heap.size, 0, none⟩ = some (.pointer (some ⟨g, 0, none⟩))) (first | go_keep | exact cell_row_other y2 ne01 | exact cell_row_other (show World.cell? (World.drew _) _ = _ from y2) ne01) (first | (go_at_call 16; (with_reducible refine (int_k w0 g q 1 m q1 _ (by first | with_reducible exact HCa.out | with_reducible exact HCa.out.drew) E0.out).mono ?_); rintro en W1 ⟨rfl, h1, hk⟩; have HC1 := Lib.hid h1; have HX1 := Lib.hid (show W1.heap[W.heap.size]? = some (.cells #[.pointer (some ⟨g, 0, none⟩)] 48 (0, 0)) from by first | exact hk.blk HXa.out nb0 | exact hk.blk (blk_drew HXa.out) nb0); have HY1 := Lib.hid (show W1.heap[W.heap.size + 1]? = some (.cells #[.int .i64 0, .bool false, .int .i64 0, .int .i64 0, .int .i64 0, .int .i64 0, .int .i64 0, .int .i64 0, .int .i64 0, .bool false, .bool false, .int .i64 0, .int .i64 0, .int .i64 0, .int .i64 0, .int .i64 0, .int .i64 0, .slice none 0 0, .string ⟨#[]⟩] 30 (0, 0)) from by first | exact hk.blk HYa.out nb1 | exact hk.blk (blk_drew HYa.out) nb1); have HK1 := Lib.hid (show KeptC g W W1 from by first | exact HKa.out.trans hk | exact KeptC.trans (W1 := World.drew _) HKa.out hk); have y1 : W1.cell? ⟨W.heap.size, 0, none⟩ = some (.pointer (some ⟨g, 0, none⟩)) := (blk_cell HX1.out 0).trans rfl; have hr1 : rowAt W1 (W.heap.size + 1) 30 19 = true := rowAt_of HY1.out rfl; clear h1 hk) | (go_at_call 61; (with_reducible refine (place_k w0 g q1 v0 v1 q2 _ (by first | with_reducible exact HC1.out | with_reducible exact HC1.out.drew) E1.out).mono ?_); rintro en W2 ⟨rfl, h1, hk⟩; have HC2 := Lib.hid h1; have HX2 := Lib.hid (show W2.heap[W.heap.size]? = some (.cells #[.pointer (some ⟨g, 0, none⟩)] 48 (0, 0)) from by first | exact hk.blk HX1.out nb0 | exact hk.blk (blk_drew HX1.out) nb0); have HY2 := Lib.hid (show W2.heap[W.heap.size + 1]? = some (.cells #[.int .i64 0, .bool false, .int .i64 0, .int .i64 0, .int .i64 0, .int .i64 0, .int .i64 0, .int .i64 0, .int .i64 0, .bool false, .bool false, .int .i64 0, .int .i64 0, .int .i64 0, .int .i64 0, .int .i64 0, .int .i64 0, .slice none 0 0, .string ⟨#[]⟩] 30 (0, 0)) from by first | exact hk.blk HY1.out nb1 | exact hk.blk (blk_drew HY1.out) nb1); have HK2 := Lib.hid (show KeptC g W W2 from by first | exact HK1.out.trans hk | exact KeptC.trans (W1 := World.drew _) HK1.out hk); have y2 : W2.cell? ⟨W.heap.size, 0, none⟩ = some (.pointer (some ⟨g, 0, none⟩)) := (blk_cell HX2.out 0).trans rfl; have hr2 : rowAt W2 (W.heap.size + 1) 30 19 = true := rowAt_of HY2.out rfl; clear h1 hk))
    all_goals
      go_wp2_with fail
      go_meet
      exact ⟨rfl, Lib.hid (setRow_heap _ _ _ _ _ _ HY2.out), Lib.hid (HC2.out.row nb1 HGE.out _), Lib.hid (HK2.out.row (by omega) _)⟩
  case rest =>
    obtain ⟨rfl, HYz, HCz, HKz⟩ := hcut
    go_wp2_with fail
    refine bodyPost_ret (results_ct rfl _ _ (W.heap.size + 1) 30 #[.int .i64 4, .bool false, .int .i64 m, .int .i64 v0, .int .i64 v1, .int .i64 0, .int .i64 0, .int .i64 0, .int .i64 0, .bool false, .bool false, .int .i64 0, .int .i64 0, .int .i64 0, .int .i64 0, .int .i64 0, .int .i64 0, .slice none 0 0, .string ⟨#[]⟩] (0, 0) _ rfl (by with_reducible exact HYz.out) Try.underlying30 rfl (by kernel_rfl)) rfl ?_
    exact ⟨rfl, HCz.out, HKz.out⟩
end

/-! ### clientmsg_reader_cut: function 39 -/
def cutC (q : CS) : Option ((ByteArray × Int) × CS) := (bytesC q 3).bind fun a => (intC a.2 4).bind fun b => if b.1 > 4096 then some ((⟨#[]⟩, 4), b.2) else (bytesC b.2 b.1).map fun t => ((t.1, 0), t.2)
/-- The message that it comes to. -/
def cutM (t : ByteArray) (e : Int) : Int := if e = 0 then 5 else 0
section
attribute [local go_sem ↓] exec_store_msg exec_load_msg
attribute [local go_sem] store_msg load_msg
set_option maxHeartbeats 4000000 in
set_option maxRecDepth 100000 in
theorem cut_k (w0 : World) (g : Nat) (q : CS) (t : ByteArray) (er : Int) (q' : CS) (W : World) (h : Cu w0 g q W) (hf : cutC q = some ((t, er), q')) :
    Calls Try.prog 39 #[.agg #[.pointer (some ⟨g, 0, none⟩)]] W fun e W' => e = .returned (.tuple #[.agg #[.int .i64 (cutM t er), .bool false, .int .i64 0, .int .i64 0, .int .i64 0, .int .i64 0, .int .i64 0, .int .i64 0, .int .i64 0, .bool false, .bool false, .int .i64 0, .int .i64 0, .int .i64 0, .int .i64 0, .int .i64 0, .int .i64 0, .slice none 0 0, .string t], .int .i64 er]) ∧ Cu w0 g q' W' ∧ KeptC g W W' := by
  unfold cutC at hf
  obtain ⟨⟨b0, q1⟩, e0, hf⟩ := Option.bind_eq_some_iff.1 hf
  obtain ⟨⟨n, q2⟩, e1, hf⟩ := Option.bind_eq_some_iff.1 hf
  have E0 := Lib.hid e0
  have E1 := Lib.hid e1
  have HF := Lib.hid hf
  clear e0 e1 hf
  have hb := below_alloc (below_alloc (Below.refl W.heap.size W) (.cells #[.pointer (some ⟨g, 0, none⟩)] 48)) (.cells #[.int .i64 0, .bool false, .int .i64 0, .int .i64 0, .int .i64 0, .int .i64 0, .int .i64 0, .int .i64 0, .int .i64 0, .bool false, .bool false, .int .i64 0, .int .i64 0, .int .i64 0, .int .i64 0, .int .i64 0, .int .i64 0, .slice none 0 0, .string ⟨#[]⟩] 30)
  obtain ⟨Wa, hWa⟩ : ∃ X, (W.alloc (.cells #[.pointer (some ⟨g, 0, none⟩)] 48)).alloc (.cells #[.int .i64 0, .bool false, .int .i64 0, .int .i64 0, .int .i64 0, .int .i64 0, .int .i64 0, .int .i64 0, .int .i64 0, .bool false, .bool false, .int .i64 0, .int .i64 0, .int .i64 0, .int .i64 0, .int .i64 0, .int .i64 0, .slice none 0 0, .string ⟨#[]⟩] 30) = X := ⟨_, rfl⟩
  have HYa := Lib.hid (show Wa.heap[W.heap.size + 1]? = some (.cells #[.int .i64 0, .bool false, .int .i64 0, .int .i64 0, .int .i64 0, .int .i64 0, .int .i64 0, .int .i64 0, .int .i64 0, .bool false, .bool false, .int .i64 0, .int .i64 0, .int .i64 0, .int .i64 0, .int .i64 0, .int .i64 0, .slice none 0 0, .string ⟨#[]⟩] 30 (0, 0)) from by rw [← hWa]; have h0 := heap_alloc_new (W.alloc (.cells #[.pointer (some ⟨g, 0, none⟩)] 48)) (.cells #[.int .i64 0, .bool false, .int .i64 0, .int .i64 0, .int .i64 0, .int .i64 0, .int .i64 0, .int .i64 0, .int .i64 0, .bool false, .bool false, .int .i64 0, .int .i64 0, .int .i64 0, .int .i64 0, .int .i64 0, .int .i64 0, .slice none 0 0, .string ⟨#[]⟩] 30); rwa [World.size_alloc] at h0)
  have HXa := Lib.hid (show Wa.heap[W.heap.size]? = some (.cells #[.pointer (some ⟨g, 0, none⟩)] 48 (0, 0)) from by rw [← hWa]; exact (Below.heap_alloc _ _ _ (by simp)).trans (heap_alloc_new W _))
  rw [hWa] at hb
  have HCa := Lib.hid (h.below hb)
  have HKa := Lib.hid (KeptC.below (g := g) hb)
  have nb0 : W.heap.size ≠ g := by have := h.lt; omega
  have nb1 : W.heap.size + 1 ≠ g := by have := h.lt; omega
  have ne01 : W.heap.size ≠ W.heap.size + 1 := by omega
  have hge : w0.heap.size ≤ W.heap.size + 1 := by have := h.low.size; omega
  have HGE := Lib.hid hge
  have y0 : Wa.cell? ⟨W.heap.size, 0, none⟩ = some (.pointer (some ⟨g, 0, none⟩)) := (blk_cell HXa.out 0).trans rfl
  clear hb h hge
  go_enter Try.func39, Try.ntmps39
  go_upto_region 1 with (fail)
  try rw [hWa]
  clear hWa
  go_wp2_with fail
  refine (bytes_k w0 g q 3 b0 q1 Wa HCa.out E0.out).mono ?_
  rintro en W1 ⟨rfl, h1, hk⟩
  have HC1 := Lib.hid h1
  have HX1 := Lib.hid (hk.blk HXa.out nb0)
  have HY1 := Lib.hid (hk.blk HYa.out nb1)
  have HK1 := Lib.hid (HKa.out.trans hk)
  have y1 : W1.cell? ⟨W.heap.size, 0, none⟩ = some (.pointer (some ⟨g, 0, none⟩)) := (blk_cell HX1.out 0).trans rfl
  have hr1 : rowAt W1 (W.heap.size + 1) 30 19 = true := rowAt_of HY1.out rfl
  clear h1 hk y0
  go_wp2_with fail
  refine (int_k w0 g q1 4 n q2 W1 HC1.out E1.out).mono ?_
  rintro en W2 ⟨rfl, h1, hk⟩
  have HC2 := Lib.hid h1
  have HX2 := Lib.hid (hk.blk HX1.out nb0)
  have HY2 := Lib.hid (hk.blk HY1.out nb1)
  have HK2 := Lib.hid (HK1.out.trans hk)
  have y2 : W2.cell? ⟨W.heap.size, 0, none⟩ = some (.pointer (some ⟨g, 0, none⟩)) := (blk_cell HX2.out 0).trans rfl
  have hr2 : rowAt W2 (W.heap.size + 1) 30 19 = true := rowAt_of HY2.out rfl
  clear h1 hk y1 hr1
  have hf := HF.out
  try dsimp only at hf
  clear HF
  by_cases hn : n > 4096
  · rw [if_pos hn] at hf
    obtain ⟨⟨rfl, rfl⟩, rfl⟩ : ((⟨#[]⟩ : ByteArray) = t ∧ (4 : Int) = er) ∧ q2 = q' := by simpa using hf
    have d1 : decide (n > 4096) = true := decide_eq_true hn
    have d2 : decide (4096 < n) = true := decide_eq_true hn
    clear hf hn
    have HYz := Lib.hid (setRow_heap W2 (W.heap.size + 1) _ #[.int .i64 0, .bool false, .int .i64 0, .int .i64 0, .int .i64 0, .int .i64 0, .int .i64 0, .int .i64 0, .int .i64 0, .bool false, .bool false, .int .i64 0, .int .i64 0, .int .i64 0, .int .i64 0, .int .i64 0, .int .i64 0, .slice none 0 0, .string ⟨#[]⟩] _ _ HY2.out)
    have HCz := Lib.hid (HC2.out.row nb1 HGE.out #[.int .i64 0, .bool false, .int .i64 0, .int .i64 0, .int .i64 0, .int .i64 0, .int .i64 0, .int .i64 0, .int .i64 0, .bool false, .bool false, .int .i64 0, .int .i64 0, .int .i64 0, .int .i64 0, .int .i64 0, .int .i64 0, .slice none 0 0, .string ⟨#[]⟩])
    have HKz := Lib.hid (show KeptC g W _ from HK2.out.row (k := W.heap.size + 1) (by omega) #[.int .i64 0, .bool false, .int .i64 0, .int .i64 0, .int .i64 0, .int .i64 0, .int .i64 0, .int .i64 0, .int .i64 0, .bool false, .bool false, .int .i64 0, .int .i64 0, .int .i64 0, .int .i64 0, .int .i64 0, .int .i64 0, .slice none 0 0, .string ⟨#[]⟩])
    go_wp2_with fail
    refine bodyPost_ret (results_ct rfl _ _ (W.heap.size + 1) 30 #[.int .i64 0, .bool false, .int .i64 0, .int .i64 0, .int .i64 0, .int .i64 0, .int .i64 0, .int .i64 0, .int .i64 0, .bool false, .bool false, .int .i64 0, .int .i64 0, .int .i64 0, .int .i64 0, .int .i64 0, .int .i64 0, .slice none 0 0, .string ⟨#[]⟩] (0, 0) _ rfl (by with_reducible exact HYz.out) Try.underlying30 rfl (by kernel_rfl)) rfl ?_
    exact ⟨rfl, HCz.out, HKz.out⟩
  · rw [if_neg hn] at hf
    obtain ⟨⟨u, q3⟩, e2, hf⟩ := Option.map_eq_some_iff.1 hf
    obtain ⟨⟨rfl, rfl⟩, rfl⟩ : (u = t ∧ (0 : Int) = er) ∧ q3 = q' := by simpa using hf
    have E2 := Lib.hid e2
    have d1 : decide (n > 4096) = false := decide_eq_false hn
    have d2 : decide (4096 < n) = false := decide_eq_false (by omega)
    clear hf hn e2
    go_wp2_with fail
    refine (bytes_k w0 g q2 n u q3 W2 HC2.out E2.out).mono ?_
    rintro en W3 ⟨rfl, h1, hk⟩
    have HC3 := Lib.hid h1
    have HX3 := Lib.hid (hk.blk HX2.out nb0)
    have HY3 := Lib.hid (hk.blk HY2.out nb1)
    have HK3 := Lib.hid (HK2.out.trans hk)
    have y3 : W3.cell? ⟨W.heap.size, 0, none⟩ = some (.pointer (some ⟨g, 0, none⟩)) := (blk_cell HX3.out 0).trans rfl
    have hr3 : rowAt W3 (W.heap.size + 1) 30 19 = true := rowAt_of HY3.out rfl
    clear h1 hk y2 hr2
    have HYz := Lib.hid (setRow_heap W3 (W.heap.size + 1) _ #[.int .i64 5, .bool false, .int .i64 0, .int .i64 0, .int .i64 0, .int .i64 0, .int .i64 0, .int .i64 0, .int .i64 0, .bool false, .bool false, .int .i64 0, .int .i64 0, .int .i64 0, .int .i64 0, .int .i64 0, .int .i64 0, .slice none 0 0, .string u] _ _ HY3.out)
    have HCz := Lib.hid (HC3.out.row nb1 HGE.out #[.int .i64 5, .bool false, .int .i64 0, .int .i64 0, .int .i64 0, .int .i64 0, .int .i64 0, .int .i64 0, .int .i64 0, .bool false, .bool false, .int .i64 0, .int .i64 0, .int .i64 0, .int .i64 0, .int .i64 0, .int .i64 0, .slice none 0 0, .string u])
    have HKz := Lib.hid (show KeptC g W _ from HK3.out.row (k := W.heap.size + 1) (by omega) #[.int .i64 5, .bool false, .int .i64 0, .int .i64 0, .int .i64 0, .int .i64 0, .int .i64 0, .int .i64 0, .int .i64 0, .bool false, .bool false, .int .i64 0, .int .i64 0, .int .i64 0, .int .i64 0, .int .i64 0, .int .i64 0, .slice none 0 0, .string u])
    go_wp2_with fail
    refine bodyPost_ret (results_ct rfl _ _ (W.heap.size + 1) 30 #[.int .i64 5, .bool false, .int .i64 0, .int .i64 0, .int .i64 0, .int .i64 0, .int .i64 0, .int .i64 0, .int .i64 0, .bool false, .bool false, .int .i64 0, .int .i64 0, .int .i64 0, .int .i64 0, .int .i64 0, .int .i64 0, .slice none 0 0, .string u] (0, 0) _ rfl (by with_reducible exact HYz.out) Try.underlying30 rfl (by kernel_rfl)) rfl ?_
    exact ⟨rfl, HCz.out, HKz.out⟩
end

end Go.Proofs.Ytclikkhkhoicfaa.X
