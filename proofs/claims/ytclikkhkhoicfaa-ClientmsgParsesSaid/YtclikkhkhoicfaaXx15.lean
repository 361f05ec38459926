/- What each Go function that these laws use answers: as a Lean function, with the proof that the machine's call comes to it. Written by a program of this session (xprint.py). -/
import Derived.Test.YtclikkhkhoicfaaXx0
import Derived.Test.YtclikkhkhoicfaaXx7
import Derived.Test.YtclikkhkhoicfaaXx14
namespace Go.Proofs.Ytclikkhkhoicfaa.X
open Go.RowKit Go.Proofs.YtclikkhkhoicfaaW.PrintWords Go.Proofs.YtclikkhkhoicfaaW.PrintLast Go.Proofs.YtclikkhkhoicfaaW.PrintMore
attribute [local go_sem] max2_int min2_int max_two min_two max_three min_three max_four min_four   -- for this text's walks alone
set_option linter.unusedVariables false
set_option linter.unusedSimpArgs false

/-! ### clientmsg_reader_place: function 61 -/
theorem cell_row_other {W : World} {a g : Nat} {o : Nat} {cs : Array Value} {v : Value} (h : W.cell? ⟨a, o, none⟩ = some v) (hne : a ≠ g) : (W.setRow g cs).cell? ⟨a, o, none⟩ = some v := by
  unfold World.cell? at h ⊢
  rw [setRow_other W g a cs hne]; exact h
def placeC (q : CS) : Option ((Int × Int) × CS) := (intC q 2).bind fun a => (intC a.2 2).bind fun b => some ((a.1, b.1), b.2)
section
attribute [local go_sem ↓] exec_store_rect
attribute [local go_sem] store_rect
set_option maxHeartbeats 4000000 in
set_option maxRecDepth 100000 in
theorem place_k (w0 : World) (g : Nat) (q : CS) (r0 r1 : Int) (q' : CS) (W : World) (h : Cu w0 g q W) (hf : placeC q = some ((r0, r1), q')) :
    Calls Try.prog 61 #[.agg #[.pointer (some ⟨g, 0, none⟩)]] W fun e W' => e = .returned (.agg #[.int .i64 r0, .int .i64 r1, .int .i64 0, .int .i64 0]) ∧ Cu w0 g q' W' ∧ KeptC g W W' := by
  unfold placeC at hf
  obtain ⟨⟨u0, q1⟩, e0, hf⟩ := Option.bind_eq_some_iff.1 hf
  obtain ⟨⟨u1, q2⟩, e1, hf⟩ := Option.bind_eq_some_iff.1 hf
  obtain ⟨⟨rfl, rfl⟩, rfl⟩ : (u0 = r0 ∧ u1 = r1) ∧ q2 = q' := by simpa using hf
  have E0 := Lib.hid e0
  have E1 := Lib.hid e1
  clear e0 e1 hf
  have hb := below_alloc (below_alloc (Below.refl W.heap.size W) (.cells #[.pointer (some ⟨g, 0, none⟩)] 48)) (.cells #[.int .i64 0, .int .i64 0, .int .i64 0, .int .i64 0] 25)
  obtain ⟨Wa, hWa⟩ : ∃ X, (W.alloc (.cells #[.pointer (some ⟨g, 0, none⟩)] 48)).alloc (.cells #[.int .i64 0, .int .i64 0, .int .i64 0, .int .i64 0] 25) = X := ⟨_, rfl⟩
  have HYa := Lib.hid (show Wa.heap[W.heap.size + 1]? = some (.cells #[.int .i64 0, .int .i64 0, .int .i64 0, .int .i64 0] 25 (0, 0)) from by rw [← hWa]; have h0 := heap_alloc_new (W.alloc (.cells #[.pointer (some ⟨g, 0, none⟩)] 48)) (.cells #[.int .i64 0, .int .i64 0, .int .i64 0, .int .i64 0] 25); rwa [World.size_alloc] at h0)
  have HXa := Lib.hid (show Wa.heap[W.heap.size]? = some (.cells #[.pointer (some ⟨g, 0, none⟩)] 48 (0, 0)) from by rw [← hWa]; exact (Below.heap_alloc _ _ _ (by simp)).trans (heap_alloc_new W _))
  rw [hWa] at hb
  have HCa := Lib.hid (h.below hb)
  have HKa := Lib.hid (KeptC.below (g := g) hb)
  have nb0 : W.heap.size ≠ g := by have := h.lt; omega
  have nb1 : W.heap.size + 1 ≠ g := by have := h.lt; omega
  have ne01 : W.heap.size ≠ W.heap.size + 1 := by omega
  have hge : w0.heap.size ≤ W.heap.size + 1 := by have := h.low.size; omega
  have HGE := Lib.hid hge
  have y0 : Wa.cell? ⟨W.heap.size, 0, none⟩ = some (.pointer (some ⟨g, 0, none⟩)) := (blk_cell HXa.out 0).trans rfl
  clear hb h hge
  go_enter Try.func61, Try.ntmps61
  go_upto_region 1 with (fail)
  try rw [hWa]
  clear hWa
  go_cut [] (fun wx => Hid (wx.heap[W.heap.size + 1]? = some (.cells #[.int .i64 u0, .int .i64 u1, .int .i64 0, .int .i64 0] 25 (0, 0))) ∧ Hid (Cu w0 g q2 wx) ∧ Hid (KeptC g W wx))
  case first =>
    go_region_held3 (fun w' => w'.cell? ⟨W.heap.size, 0, none⟩ = some (.pointer (some ⟨g, 0, none⟩))) (first | go_keep | exact cell_row_other y2 ne01 | exact cell_row_other (show World.cell? (World.drew _) _ = _ from y2) ne01) (first | (go_at_call 16; (with_reducible refine (int_k w0 g q 2 u0 q1 _ (by first | with_reducible exact HCa.out | with_reducible exact HCa.out.drew) E0.out).mono ?_); rintro en W1 ⟨rfl, h1, hk⟩; have HC1 := Lib.hid h1; have HX1 := Lib.hid (show W1.heap[W.heap.size]? = some (.cells #[.pointer (some ⟨g, 0, none⟩)] 48 (0, 0)) from by first | exact hk.blk HXa.out nb0 | exact hk.blk (blk_drew HXa.out) nb0); have HY1 := Lib.hid (show W1.heap[W.heap.size + 1]? = some (.cells #[.int .i64 0, .int .i64 0, .int .i64 0, .int .i64 0] 25 (0, 0)) from by first | exact hk.blk HYa.out nb1 | exact hk.blk (blk_drew HYa.out) nb1); have HK1 := Lib.hid (show KeptC g W W1 from by first | exact HKa.out.trans hk | exact KeptC.trans (W1 := World.drew _) HKa.out hk); have y1 : W1.cell? ⟨W.heap.size, 0, none⟩ = some (.pointer (some ⟨g, 0, none⟩)) := (blk_cell HX1.out 0).trans rfl; have hr1 : rowAt W1 (W.heap.size + 1) 25 4 = true := rowAt_of HY1.out rfl; clear h1 hk) | (go_at_call 16; (with_reducible refine (int_k w0 g q1 2 u1 q2 _ (by first | with_reducible exact HC1.out | with_reducible exact HC1.out.drew) E1.out).mono ?_); rintro en W2 ⟨rfl, h1, hk⟩; have HC2 := Lib.hid h1; have HX2 := Lib.hid (show W2.heap[W.heap.size]? = some (.cells #[.pointer (some ⟨g, 0, none⟩)] 48 (0, 0)) from by first | exact hk.blk HX1.out nb0 | exact hk.blk (blk_drew HX1.out) nb0); have HY2 := Lib.hid (show W2.heap[W.heap.size + 1]? = some (.cells #[.int .i64 0, .int .i64 0, .int .i64 0, .int .i64 0] 25 (0, 0)) from by first | exact hk.blk HY1.out nb1 | exact hk.blk (blk_drew HY1.out) nb1); have HK2 := Lib.hid (show KeptC g W W2 from by first | exact HK1.out.trans hk | exact KeptC.trans (W1 := World.drew _) HK1.out hk); have y2 : W2.cell? ⟨W.heap.size, 0, none⟩ = some (.pointer (some ⟨g, 0, none⟩)) := (blk_cell HX2.out 0).trans rfl; have hr2 : rowAt W2 (W.heap.size + 1) 25 4 = true := rowAt_of HY2.out rfl; clear h1 hk))
    all_goals
      go_wp2_with fail
      go_meet
      exact ⟨Lib.hid (setRow_heap _ _ _ _ _ _ HY2.out), Lib.hid (HC2.out.row nb1 HGE.out _), Lib.hid (HK2.out.row (by omega) _)⟩
  case rest =>
    obtain ⟨HYz, HCz, HKz⟩ := hcut
    go_wp2_with fail
    refine bodyPost_ret (results_cell_row rfl _ _ (W.heap.size + 1) 25 #[.int .i64 u0, .int .i64 u1, .int .i64 0, .int .i64 0] (0, 0) _ rfl (by with_reducible exact HYz.out) Try.underlying25 rfl (by kernel_rfl)) rfl ?_
    exact ⟨rfl, HCz.out, HKz.out⟩
end

/-! ### clientmsg_reader_rect: function 60 -/
def rectC (q : CS) : Option ((Int × Int × Int × Int) × CS) := (placeC q).bind fun p => (intC p.2 2).bind fun a => (intC a.2 2).bind fun b => some ((p.1.1, p.1.2, a.1, b.1), b.2)
section
attribute [local go_sem ↓] exec_store_rect exec_load_rect
attribute [local go_sem] store_rect load_rect
set_option maxHeartbeats 4000000 in
set_option maxRecDepth 100000 in
theorem rect_k (w0 : World) (g : Nat) (q : CS) (r0 r1 r2 r3 : Int) (q' : CS) (W : World) (h : Cu w0 g q W) (hf : rectC q = some ((r0, r1, r2, r3), q')) :
    Calls Try.prog 60 #[.agg #[.pointer (some ⟨g, 0, none⟩)]] W fun e W' => e = .returned (.agg #[.int .i64 r0, .int .i64 r1, .int .i64 r2, .int .i64 r3]) ∧ Cu w0 g q' W' ∧ KeptC g W W' := by
  unfold rectC at hf
  obtain ⟨⟨⟨u0, u1⟩, q1⟩, e0, hf⟩ := Option.bind_eq_some_iff.1 hf
  obtain ⟨⟨u2, q2⟩, e1, hf⟩ := Option.bind_eq_some_iff.1 hf
  obtain ⟨⟨u3, q3⟩, e2, hf⟩ := Option.bind_eq_some_iff.1 hf
  obtain ⟨⟨rfl, rfl, rfl, rfl⟩, rfl⟩ : (u0 = r0 ∧ u1 = r1 ∧ u2 = r2 ∧ u3 = r3) ∧ q3 = q' := by simpa using hf
  have E0 := Lib.hid e0
  have E1 := Lib.hid e1
  have E2 := Lib.hid e2
  clear e0 e1 e2 hf
  have hb := below_alloc (below_alloc (Below.refl W.heap.size W) (.cells #[.pointer (some ⟨g, 0, none⟩)] 48)) (.cells #[.int .i64 0, .int .i64 0, .int .i64 0, .int .i64 0] 25)
  obtain ⟨Wa, hWa⟩ : ∃ X, (W.alloc (.cells #[.pointer (some ⟨g, 0, none⟩)] 48)).alloc (.cells #[.int .i64 0, .int .i64 0, .int .i64 0, .int .i64 0] 25) = X := ⟨_, rfl⟩
  have HYa := Lib.hid (show Wa.heap[W.heap.size + 1]? = some (.cells #[.int .i64 0, .int .i64 0, .int .i64 0, .int .i64 0] 25 (0, 0)) from by rw [← hWa]; have h0 := heap_alloc_new (W.alloc (.cells #[.pointer (some ⟨g, 0, none⟩)] 48)) (.cells #[.int .i64 0, .int .i64 0, .int .i64 0, .int .i64 0] 25); rwa [World.size_alloc] at h0)
  have HXa := Lib.hid (show Wa.heap[W.heap.size]? = some (.cells #[.pointer (some ⟨g, 0, none⟩)] 48 (0, 0)) from by rw [← hWa]; exact (Below.heap_alloc _ _ _ (by simp)).trans (heap_alloc_new W _))
  rw [hWa] at hb
  have HCa := Lib.hid (h.below hb)
  have HKa := Lib.hid (KeptC.below (g := g) hb)
  have nb0 : W.heap.size ≠ g := by have := h.lt; omega
  have nb1 : W.heap.size + 1 ≠ g := by have := h.lt; omega
  have ne01 : W.heap.size ≠ W.heap.size + 1 := by omega
  have hge : w0.heap.size ≤ W.heap.size + 1 := by have := h.low.size; omega
  have HGE := Lib.hid hge
  have y0 : Wa.cell? ⟨W.heap.size, 0, none⟩ = some (.pointer (some ⟨g, 0, none⟩)) := (blk_cell HXa.out 0).trans rfl
  clear hb h hge
  go_enter Try.func60, Try.ntmps60
  go_upto_region 1 with (fail)
  try rw [hWa]
  clear hWa
  go_wp2_with fail
  refine (place_k w0 g q u0 u1 q1 Wa HCa.out E0.out).mono ?_
  rintro en W1 ⟨rfl, h1, hk⟩
  have HX1 := Lib.hid (hk.blk HXa.out nb0)
  have HY1 := Lib.hid (hk.blk HYa.out nb1)
  have hrn := rowAt_rect W1 #[.int .i64 0, .int .i64 0, .int .i64 0, .int .i64 0] rfl
  obtain ⟨Wb, hWb⟩ : ∃ X, (W1.alloc (.cells #[.int .i64 0, .int .i64 0, .int .i64 0, .int .i64 0] 25)).setRow W1.heap.size #[.int .i64 u0, .int .i64 u1, .int .i64 0, .int .i64 0] = X := ⟨_, rfl⟩
  have hbz := below_alloc (Below.refl W1.heap.size W1) (.cells #[.int .i64 0, .int .i64 0, .int .i64 0, .int .i64 0] 25)
  have hs0 := blk_lt HX1.out
  have hs1 := blk_lt HY1.out
  have nkg : W1.heap.size ≠ g := by have := h1.lt; omega
  have nk0 : W.heap.size ≠ W1.heap.size := by omega
  have nk1 : W.heap.size + 1 ≠ W1.heap.size := by omega
  have hge1 : w0.heap.size ≤ W1.heap.size := h1.low.size
  have HCb := Lib.hid (show Cu w0 g q1 Wb from by rw [← hWb]; exact (h1.below hbz).row nkg hge1 _)
  have HXb := Lib.hid (show Wb.heap[W.heap.size]? = some (.cells #[.pointer (some ⟨g, 0, none⟩)] 48 (0, 0)) from by rw [← hWb]; exact (setRow_other _ _ _ _ nk0).trans (blk_below HX1.out hbz))
  have HYb := Lib.hid (show Wb.heap[W.heap.size + 1]? = some (.cells #[.int .i64 0, .int .i64 0, .int .i64 0, .int .i64 0] 25 (0, 0)) from by rw [← hWb]; exact (setRow_other _ _ _ _ nk1).trans (blk_below HY1.out hbz))
  have HZb := Lib.hid (show Wb.heap[W1.heap.size]? = some (.cells #[.int .i64 u0, .int .i64 u1, .int .i64 0, .int .i64 0] 25 (0, 0)) from by rw [← hWb]; exact setRow_heap _ _ _ _ _ _ (heap_alloc_new W1 _))
  have HKb := Lib.hid (show KeptC g W Wb from by rw [← hWb]; exact ((HKa.out.trans hk).trans (KeptC.below hbz)).row (by omega) _)
  have HG1 := Lib.hid hge1
  go_upto_region 2 with (fail)
  try rw [hWb]
  clear hWb y0 hrn hbz h1 hk
  obtain ⟨kk, hkk⟩ : ∃ kk, W1.heap.size = kk := ⟨_, rfl⟩
  rw [hkk] at HZb nkg nk0 nk1 HG1 hs0 hs1 hge1 ⊢
  clear hkk
  have y0 : Wb.cell? ⟨W.heap.size, 0, none⟩ = some (.pointer (some ⟨g, 0, none⟩)) := (blk_cell HXb.out 0).trans rfl
  go_cut [] (fun wx => Hid (wx.heap[kk]? = some (.cells #[.int .i64 u0, .int .i64 u1, .int .i64 u2, .int .i64 u3] 25 (0, 0))) ∧ Hid (wx.heap[W.heap.size + 1]? = some (.cells #[.int .i64 0, .int .i64 0, .int .i64 0, .int .i64 0] 25 (0, 0))) ∧ Hid (Cu w0 g q3 wx) ∧ Hid (KeptC g W wx))
  case first =>
    go_region_held3 (fun w' => w'.cell? ⟨W.heap.size, 0, none⟩ = some (.pointer (some ⟨g, 0, none⟩))) (first | go_keep | exact (blk_cell (blk_far HX2.out nk0 _) 0).trans rfl | exact (blk_cell (blk_far (blk_far HX2.out nk0 _) nk0 _) 0).trans rfl) (first | (go_at_call 16; (with_reducible refine (int_k w0 g q1 2 u2 q2 _ (by first | with_reducible exact HCb.out | with_reducible exact HCb.out.drew) E1.out).mono ?_); rintro en V1 ⟨rfl, h1, hk⟩; have HC1 := Lib.hid h1; have HX1 := Lib.hid (show V1.heap[W.heap.size]? = some (.cells #[.pointer (some ⟨g, 0, none⟩)] 48 (0, 0)) from by first | exact hk.blk HXb.out nb0 | exact hk.blk (blk_drew HXb.out) nb0); have HY1 := Lib.hid (show V1.heap[W.heap.size + 1]? = some (.cells #[.int .i64 0, .int .i64 0, .int .i64 0, .int .i64 0] 25 (0, 0)) from by first | exact hk.blk HYb.out nb1 | exact hk.blk (blk_drew HYb.out) nb1); have HZ1 := Lib.hid (show V1.heap[kk]? = some (.cells #[.int .i64 u0, .int .i64 u1, .int .i64 0, .int .i64 0] 25 (0, 0)) from by first | exact hk.blk HZb.out nkg | exact hk.blk (blk_drew HZb.out) nkg); have HK1 := Lib.hid (show KeptC g W V1 from by first | exact HKb.out.trans hk | exact KeptC.trans (W1 := World.drew _) HKb.out hk); have y1 : V1.cell? ⟨W.heap.size, 0, none⟩ = some (.pointer (some ⟨g, 0, none⟩)) := (blk_cell HX1.out 0).trans rfl; have z12 : V1.cell? ⟨kk, 2, none⟩ = some (.int .i64 0) := (blk_cell HZ1.out 2).trans rfl; have z13 : V1.cell? ⟨kk, 3, none⟩ = some (.int .i64 0) := (blk_cell HZ1.out 3).trans rfl; have f12 : V1.frozen? ⟨kk, 2, none⟩ = false := blk_frozen HZ1.out _; have f13 : V1.frozen? ⟨kk, 3, none⟩ = false := blk_frozen HZ1.out _; clear h1 hk) | (go_at_call 16; (with_reducible refine (int_k w0 g q2 2 u3 q3 _ (by first | with_reducible exact HC1.out | with_reducible exact HC1.out.drew) E2.out).mono ?_); rintro en V2 ⟨rfl, h1, hk⟩; have HC2 := Lib.hid h1; have HX2 := Lib.hid (show V2.heap[W.heap.size]? = some (.cells #[.pointer (some ⟨g, 0, none⟩)] 48 (0, 0)) from by first | exact hk.blk HX1.out nb0 | exact hk.blk (blk_drew HX1.out) nb0); have HY2 := Lib.hid (show V2.heap[W.heap.size + 1]? = some (.cells #[.int .i64 0, .int .i64 0, .int .i64 0, .int .i64 0] 25 (0, 0)) from by first | exact hk.blk HY1.out nb1 | exact hk.blk (blk_drew HY1.out) nb1); have HZ2 := Lib.hid (show V2.heap[kk]? = some (.cells #[.int .i64 u0, .int .i64 u1, .int .i64 0, .int .i64 0] 25 (0, 0)) from by first | exact hk.blk HZ1.out nkg | exact hk.blk (blk_drew HZ1.out) nkg); have HK2 := Lib.hid (show KeptC g W V2 from by first | exact HK1.out.trans hk | exact KeptC.trans (W1 := World.drew _) HK1.out hk); have y2 : V2.cell? ⟨W.heap.size, 0, none⟩ = some (.pointer (some ⟨g, 0, none⟩)) := (blk_cell HX2.out 0).trans rfl; have z22 : V2.cell? ⟨kk, 2, none⟩ = some (.int .i64 0) := (blk_cell HZ2.out 2).trans rfl; have z23 : V2.cell? ⟨kk, 3, none⟩ = some (.int .i64 0) := (blk_cell HZ2.out 3).trans rfl; have f22 : V2.frozen? ⟨kk, 2, none⟩ = false := blk_frozen HZ2.out _; have f23 : V2.frozen? ⟨kk, 3, none⟩ = false := blk_frozen HZ2.out _; clear h1 hk))
    all_goals
      go_wp2_with fail
      go_meet
      exact ⟨Lib.hid (blk_put (cs' := #[.int .i64 u0, .int .i64 u1, .int .i64 u2, .int .i64 u3]) (blk_put (cs' := #[.int .i64 u0, .int .i64 u1, .int .i64 u2, .int .i64 0]) HZ2.out 2 (.int .i64 u2) rfl) 3 (.int .i64 u3) rfl), Lib.hid (blk_far (blk_far HY2.out nk1 _) nk1 _), Lib.hid ((HC2.out.far (p := ⟨kk, 2, none⟩) nkg HG1.out _).far (p := ⟨kk, 3, none⟩) nkg HG1.out _), Lib.hid ((HK2.out.set (p := ⟨kk, 2, none⟩) (by show W.heap.size ≤ kk; omega) _).set (p := ⟨kk, 3, none⟩) (by show W.heap.size ≤ kk; omega) _)⟩
  case rest =>
    obtain ⟨HZc, HYc, HCc, HKc⟩ := hcut
    have a1 : rowAt wc kk 25 4 = true := rowAt_of HZc.out rfl
    have a2 : cellsAt wc kk = #[.int .i64 u0, .int .i64 u1, .int .i64 u2, .int .i64 u3] := cellsAt_of HZc.out
    have a3 : rowAt wc (W.heap.size + 1) 25 4 = true := rowAt_of HYc.out rfl
    have HYz := Lib.hid (setRow_heap wc (W.heap.size + 1) _ #[.int .i64 u0, .int .i64 u1, .int .i64 u2, .int .i64 u3] _ _ HYc.out)
    have HCz := Lib.hid (HCc.out.row nb1 HGE.out #[.int .i64 u0, .int .i64 u1, .int .i64 u2, .int .i64 u3])
    have HKz := Lib.hid (show KeptC g W _ from HKc.out.row (k := W.heap.size + 1) (by omega) #[.int .i64 u0, .int .i64 u1, .int .i64 u2, .int .i64 u3])
    go_wp2_with fail
    refine bodyPost_ret (results_cell_row rfl _ _ (W.heap.size + 1) 25 #[.int .i64 u0, .int .i64 u1, .int .i64 u2, .int .i64 u3] (0, 0) _ rfl (by with_reducible exact HYz.out) Try.underlying25 rfl (by kernel_rfl)) rfl ?_
    exact ⟨rfl, HCz.out, HKz.out⟩
end

/-! ### clientmsg_reader_request: function 36 -/
theorem exec_store_msg (ρ : Operand → Value) (d : Option Tmp) (x y : Operand) (ty : TypeId) (ps : String) (af : Array Edge) (gd : Option (Nat × Bool)) (P : Program) (W : World) : (execOp ρ ⟨d, .store 30 x y, ty, ps, af, gd⟩).run P W = stOut P 30 W (ρ x) (ρ y) := rfl
theorem exec_load_msg (ρ : Operand → Value) (d : Option Tmp) (x : Operand) (ty : TypeId) (ps : String) (af : Array Edge) (gd : Option (Nat × Bool)) (P : Program) (W : World) : (execOp ρ ⟨d, .load 30 x, ty, ps, af, gd⟩).run P W = ldOut P 30 W (ρ x) := rfl
theorem store_msg (W : World) (g : Nat) (x0 : Int) (x1 : Bool) (x2 : Int) (x3 : Int) (x4 : Int) (x5 : Int) (x6 : Int) (x7 : Int) (x8 : Int) (x9 : Bool) (x10 : Bool) (x11 : Int) (x12 : Int) (x13 : Int) (x14 : Int) (x15 : Int) (x16 : Int) (A17 : Option Addr) (n17 c17 : Nat) (x18 : ByteArray) (h : rowAt W g 30 19 = true) : stOut Try.prog 30 W (.pointer (some ⟨g, 0, none⟩)) (.agg #[.int .i64 x0, .bool x1, .int .i64 x2, .int .i64 x3, .int .i64 x4, .int .i64 x5, .int .i64 x6, .int .i64 x7, .int .i64 x8, .bool x9, .bool x10, .int .i64 x11, .int .i64 x12, .int .i64 x13, .int .i64 x14, .int .i64 x15, .int .i64 x16, .slice A17 n17 c17, .string x18]) = .ok .skip (W.setRow g #[.int .i64 x0, .bool x1, .int .i64 x2, .int .i64 x3, .int .i64 x4, .int .i64 x5, .int .i64 x6, .int .i64 x7, .int .i64 x8, .bool x9, .bool x10, .int .i64 x11, .int .i64 x12, .int .i64 x13, .int .i64 x14, .int .i64 x15, .int .i64 x16, .slice A17 n17 c17, .string x18]) := stOut_any (by kernel_rfl) W g _ rfl (by simp [Value.oneCell']) h
theorem load_msg (W : World) (g : Nat) (h : rowAt W g 30 19 = true) : ldOut Try.prog 30 W (.pointer (some ⟨g, 0, none⟩)) = .ok (.value (.agg (cellsAt W g))) W := ldOut_any Try.underlying30 rfl (by kernel_rfl) W g h
def requestC (q : CS) : Option ((Bool × Int × Int × Int × Int) × CS) := (flagC q).bind fun a => (rectC a.2).bind fun b => some ((a.1, b.1.1, b.1.2.1, b.1.2.2.1, b.1.2.2.2), b.2)
section
attribute [local go_sem ↓] exec_store_msg exec_load_msg
attribute [local go_sem] store_msg load_msg
set_option maxHeartbeats 4000000 in
set_option maxRecDepth 100000 in
theorem request_k (w0 : World) (g : Nat) (q : CS) (f : Bool) (u0 u1 u2 u3 : Int) (q' : CS) (W : World) (h : Cu w0 g q W) (hf : requestC q = some ((f, u0, u1, u2, u3), q')) :
    Calls Try.prog 36 #[.agg #[.pointer (some ⟨g, 0, none⟩)]] W fun e W' => e = .returned (.tuple #[.agg #[.int .i64 2, .bool f, .int .i64 0, .int .i64 u0, .int .i64 u1, .int .i64 u2, .int .i64 u3, .int .i64 0, .int .i64 0, .bool false, .bool false, .int .i64 0, .int .i64 0, .int .i64 0, .int .i64 0, .int .i64 0, .int .i64 0, .slice none 0 0, .string ⟨#[]⟩], .int .i64 0]) ∧ Cu w0 g q' W' ∧ KeptC g W W' := by
  unfold requestC at hf
  obtain ⟨⟨f0, q1⟩, e0, hf⟩ := Option.bind_eq_some_iff.1 hf
  obtain ⟨⟨⟨v0, v1, v2, v3⟩, q2⟩, e1, hf⟩ := Option.bind_eq_some_iff.1 hf
  obtain ⟨⟨rfl, rfl, rfl, rfl, rfl⟩, rfl⟩ : (f0 = f ∧ v0 = u0 ∧ v1 = u1 ∧ v2 = u2 ∧ v3 = u3) ∧ q2 = q' := by simpa using hf
  have E0 := Lib.hid e0
  have E1 := Lib.hid e1
  clear e0 e1 hf
  have hb := below_alloc (below_alloc (Below.refl W.heap.size W) (.cells #[.pointer (some ⟨g, 0, none⟩)] 48)) (.cells #[.int .i64 0, .bool false, .int .i64 0, .int .i64 0, .int .i64 0, .int .i64 0, .int .i64 0, .int .i64 0, .int .i64 0, .bool false, .bool false, .int .i64 0, .int .i64 0, .int .i64 0, .int .i64 0, .int .i64 0, .int .i64 0, .slice none 0 0, .string ⟨#[]⟩] 30)
  obtain ⟨Wa, hWa⟩ : ∃ X, (W.alloc (.cells #[.pointer (some ⟨g, 0, none⟩)] 48)).alloc (.cells #[.int .i64 0, .bool false, .int .i64 0, .int .i64 0, .int .i64 0, .int .i64 0, .int .i64 0, .int .i64 0, .int .i64 0, .bool false, .bool false, .int .i64 0, .int .i64 0, .int .i64 0, .int .i64 0, .int .i64 0, .int .i64 0, .slice none 0 0, .string ⟨#[]⟩] 30) = X := ⟨_, rfl⟩
  have HYa := Lib.hid (show Wa.heap[W.heap.size + 1]? = some (.cells #[.int .i64 0, .bool false, .int .i64 0, .int .i64 0, .int .i64 0, .int .i64 0, .int .i64 0, .int .i64 0, .int .i64 0, .bool false, .bool false, .int .i64 0, .int .i64 0, .int .i64 0, .int .i64 0, .int .i64 0, .int .i64 0, .slice none 0 0, .string ⟨#[]⟩] 30 (0, 0)) from by rw [← hWa]; have h0 := heap_alloc_new (W.alloc (.cells #[.pointer (some ⟨g, 0, none⟩)] 48)) (.cells #[.int .i64 0, .bool false, .int .i64 0, .int .i64 0, .int .i64 0, .int .i64 0, .int .i64 0, .int .i64 0, .int .i64 0, .bool false, .bool false, .int .i64 0, .int .i64 0, .int .i64 0, .int .i64 0, .int .i64 0, .int .i64 0, .slice none 0 0, .string ⟨#[]⟩] 30); rwa [World.size_alloc] at h0)
  have HXa := Lib.hid (show Wa.heap[W.heap.size]? = some (.cells #[.pointer (some ⟨g, 0, none⟩)] 48 (0, 0)) from by rw [← hWa]; exact (Below.heap_alloc _ _ _ (by simp)).trans (heap_alloc_new W _))
  rw [hWa] at hb
  have HCa := Lib.hid (h.below hb)
  have HKa := Lib.hid (KeptC.below (g := g) hb)
  have nb0 : W.heap.size ≠ g := by have := h.lt; omega
  have nb1 : W.heap.size + 1 ≠ g := by have := h.lt; omega
  have ne01 : W.heap.size ≠ W.heap.size + 1 := by omega
  have hge : w0.heap.size ≤ W.heap.size + 1 := by have := h.low.size; omega
  have HGE := Lib.hid hge
  have y0 : Wa.cell? ⟨W.heap.size, 0, none⟩ = some (.pointer (some ⟨g, 0, none⟩)) := (blk_cell HXa.out 0).trans rfl
  clear hb h hge
  go_enter Try.func36, Try.ntmps36
  go_upto_region 1 with (fail)
  try rw [hWa]
  clear hWa
  go_cut [3] (fun s3 wx => s3 = .int .i64 0 ∧ Hid (wx.heap[W.heap.size + 1]? = some (.cells #[.int .i64 2, .bool f0, .int .i64 0, .int .i64 v0, .int .i64 v1, .int .i64 v2, .int .i64 v3, .int .i64 0, .int .i64 0, .bool false, .bool false, .int .i64 0, .int .i64 0, .int .i64 0, .int .i64 0, .int .i64 0, .int .i64 0, .slice none 0 0, .string ⟨#[]⟩] 30 (0, 0))) ∧ Hid (Cu w0 g q2 wx) ∧ Hid (KeptC g W wx))
  case first =>
    go_region_held3 (fun w' => w'.cell? ⟨W.heap.size, 0, none⟩ = some (.pointer (some ⟨g, 0, none⟩))) (first | go_keep | exact cell_row_other y2 ne01 | exact cell_row_other (show World.cell? (World.drew _) _ = _ from y2) ne01) (first | (go_at_call 59; (with_reducible refine (flag_k w0 g q f0 q1 _ (by first | with_reducible exact HCa.out | with_reducible exact HCa.out.drew) E0.out).mono ?_); rintro en W1 ⟨rfl, h1, hk⟩; have HC1 := Lib.hid h1; have HX1 := Lib.hid (show W1.heap[W.heap.size]? = some (.cells #[.pointer (some ⟨g, 0, none⟩)] 48 (0, 0)) from by first | exact hk.blk HXa.out nb0 | exact hk.blk (blk_drew HXa.out) nb0); have HY1 := Lib.hid (show W1.heap[W.heap.size + 1]? = some (.cells #[.int .i64 0, .bool false, .int .i64 0, .int .i64 0, .int .i64 0, .int .i64 0, .int .i64 0, .int .i64 0, .int .i64 0, .bool false, .bool false, .int .i64 0, .int .i64 0, .int .i64 0, .int .i64 0, .int .i64 0, .int .i64 0, .slice none 0 0, .string ⟨#[]⟩] 30 (0, 0)) from by first | exact hk.blk HYa.out nb1 | exact hk.blk (blk_drew HYa.out) nb1); have HK1 := Lib.hid (show KeptC g W W1 from by first | exact HKa.out.trans hk | exact KeptC.trans (W1 := World.drew _) HKa.out hk); have y1 : W1.cell? ⟨W.heap.size, 0, none⟩ = some (.pointer (some ⟨g, 0, none⟩)) := (blk_cell HX1.out 0).trans rfl; have hr1 : rowAt W1 (W.heap.size + 1) 30 19 = true := rowAt_of HY1.out rfl; clear h1 hk) | (go_at_call 60; (with_reducible refine (rect_k w0 g q1 v0 v1 v2 v3 q2 _ (by first | with_reducible exact HC1.out | with_reducible exact HC1.out.drew) E1.out).mono ?_); rintro en W2 ⟨rfl, h1, hk⟩; have HC2 := Lib.hid h1; have HX2 := Lib.hid (show W2.heap[W.heap.size]? = some (.cells #[.pointer (some ⟨g, 0, none⟩)] 48 (0, 0)) from by first | exact hk.blk HX1.out nb0 | exact hk.blk (blk_drew HX1.out) nb0); have HY2 := Lib.hid (show W2.heap[W.heap.size + 1]? = some (.cells #[.int .i64 0, .bool false, .int .i64 0, .int .i64 0, .int .i64 0, .int .i64 0, .int .i64 0, .int .i64 0, .int .i64 0, .bool false, .bool false, .int .i64 0, .int .i64 0, .int .i64 0, .int .i64 0, .int .i64 0, .int .i64 0, .slice none 0 0, .string ⟨#[]⟩] 30 (0, 0)) from by first | exact hk.blk HY1.out nb1 | exact hk.blk (blk_drew HY1.out) nb1); have HK2 := Lib.hid (show KeptC g W W2 from by first | exact HK1.out.trans hk | exact KeptC.trans (W1 := World.drew _) HK1.out hk); have y2 : W2.cell? ⟨W.heap.size, 0, none⟩ = some (.pointer (some ⟨g, 0, none⟩)) := (blk_cell HX2.out 0).trans rfl; have hr2 : rowAt W2 (W.heap.size + 1) 30 19 = true := rowAt_of HY2.out rfl; clear h1 hk))
    all_goals
      go_wp2_with fail
      go_meet
      exact ⟨rfl, Lib.hid (setRow_heap _ _ _ _ _ _ HY2.out), Lib.hid (HC2.out.row nb1 HGE.out _), Lib.hid (HK2.out.row (by omega) _)⟩
  case rest =>
    obtain ⟨rfl, HYz, HCz, HKz⟩ := hcut
    go_wp2_with fail
    refine bodyPost_ret (results_ct rfl _ _ (W.heap.size + 1) 30 #[.int .i64 2, .bool f0, .int .i64 0, .int .i64 v0, .int .i64 v1, .int .i64 v2, .int .i64 v3, .int .i64 0, .int .i64 0, .bool false, .bool false, .int .i64 0, .int .i64 0, .int .i64 0, .int .i64 0, .int .i64 0, .int .i64 0, .slice none 0 0, .string ⟨#[]⟩] (0, 0) _ rfl (by with_reducible exact HYz.out) Try.underlying30 rfl (by kernel_rfl)) rfl ?_
    exact ⟨rfl, HCz.out, HKz.out⟩
end

end Go.Proofs.Ytclikkhkhoicfaa.X
