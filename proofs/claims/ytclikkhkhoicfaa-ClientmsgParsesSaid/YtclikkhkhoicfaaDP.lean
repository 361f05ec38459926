/- The document's Parse: what it answers, step by step in the words of the program's cursor. No condition. -/
import Derived.Test.YtclikkhkhoicfaaDQ
import Derived.Test.YtclikkhkhoicfaaCL4
import Derived.Test.YtclikkhkhoicfaaFM11P
import Derived.Deep.DeepCutAuto
import Derived.Deep.RegionHeld3
import Derived.StillTailTactics
namespace Go.Proofs.Ytclikkhkhoicfaa.H
open Go.RowKit Go.Proofs.YtclikkhkhoicfaaW.PrintWords Go.Proofs.YtclikkhkhoicfaaW.PrintLast Go.Proofs.YtclikkhkhoicfaaW.PrintMore Go.Proofs.Ytclikkhkhoicfaa.B Go.Proofs.Ytclikkhkhoicfaa.O Go.Proofs.Ytclikkhkhoicfaa.F Go.Proofs.Ytclikkhkhoicfaa.X
set_option linter.unusedVariables false
set_option linter.unusedSimpArgs false
theorem kp51 {W : World} {c r : Nat} {s : ByteArray} {p e : Int} (hd : W.heap[c]? = some (.cells #[.string s, .int .i64 p, .int .i64 e] 58 (0, 0))) (n1 : c ≠ r) (x : Array Value) : (W.setRow r x).cell? ⟨c, 2, none⟩ = some (.int .i64 e) := (blk_cell ((setRow_other W r c x n1).trans hd) 2).trans rfl
theorem kp52 {W : World} {c m r : Nat} {s : ByteArray} {p e : Int} {cs : Array Value} (hd : W.heap[c]? = some (.cells #[.string s, .int .i64 p, .int .i64 e] 58 (0, 0))) (hm : W.heap[m]? = some (.cells cs 30 (0, 0))) (hs : cs.size = 19) (n1 : c ≠ r) (n2 : m ≠ r) (x : Array Value) : (W.setRow r x).cell? ⟨c, 1, none⟩ = some (.int .i64 p) ∧ X.rowAt (W.setRow r x) m 30 19 = true ∧ X.cellsAt (W.setRow r x) m = cs :=
  ⟨(blk_cell ((setRow_other W r c x n1).trans hd) 1).trans rfl, X.rowAt_of ((setRow_other W r m x n2).trans hm) hs, X.cellsAt_of ((setRow_other W r m x n2).trans hm)⟩
section
attribute [local go_sem ↓] exec_store_msg exec_load_msg exec_store_pfm exec_load_pfm
attribute [local go_sem] store_msg load_msg store_pfm load_pfm
set_option maxHeartbeats 8000000 in
set_option maxRecDepth 100000 in
theorem dp_short (s : ByteArray) (W : World) (o0 : Ok ⟨s, 0, 0⟩) (k : Int) (q1 : CS) (e0 : intC ⟨s, 0, 0⟩ 1 = some (k, q1)) (o1 : Ok q1) (hc : q1.ce ≠ 0) (r0 : Int) (r1 : Bool) (r2 : Int) (r3 : Int) (r4 : Int) (r5 : Int) (r6 : Int) (r7 : Int) (r8 : Int) (r9 : Bool) (r10 : Bool) (r11 : Int) (r12 : Int) (r13 : Int) (r14 : Int) (r15 : Int) (r16 : Int) (r17 : List Int) (r18 : ByteArray) (n e : Int) (hres : (0, false, 0, 0, 0, 0, 0, 0, 0, false, false, 0, 0, 0, 0, 0, 0, [], ⟨#[]⟩, 0, q1.ce) = (r0, r1, r2, r3, r4, r5, r6, r7, r8, r9, r10, r11, r12, r13, r14, r15, r16, r17, r18, n, e)) :
    Calls Try.prog 9 #[.string s] W fun en w' => ∃ v0_ : Value, en = .returned (.tuple #[.agg #[.int .i64 r0, .bool r1, .int .i64 r2, .int .i64 r3, .int .i64 r4, .int .i64 r5, .int .i64 r6, .int .i64 r7, .int .i64 r8, .bool r9, .bool r10, .int .i64 r11, .int .i64 r12, .int .i64 r13, .int .i64 r14, .int .i64 r15, .int .i64 r16, v0_, .string r18], .int .i64 n, .int .i64 e]) ∧ Kd.R (Kd.int .i64) 3 w' W.heap.size (fun _ => True) v0_ r17 ∧ Below W.heap.size W w' := by
  have E0 := Lib.hid e0
  have O0 := Lib.hid o0
  have O1 := Lib.hid o1
  have HRES := Lib.hid hres
  clear hres e0 o0 o1
  obtain ⟨Wa, hWa⟩ : ∃ X, (W.alloc (.cells #[.int .i64 0, .bool false, .int .i64 0, .int .i64 0, .int .i64 0, .int .i64 0, .int .i64 0, .int .i64 0, .int .i64 0, .bool false, .bool false, .int .i64 0, .int .i64 0, .int .i64 0, .int .i64 0, .int .i64 0, .int .i64 0, .slice none 0 0, .string ⟨#[]⟩] 30)).alloc (.cells #[.string s, .int .i64 0, .int .i64 0] 58) = X := ⟨_, rfl⟩
  have HRa := Lib.hid (show Wa.heap[W.heap.size]? = some (.cells #[.int .i64 0, .bool false, .int .i64 0, .int .i64 0, .int .i64 0, .int .i64 0, .int .i64 0, .int .i64 0, .int .i64 0, .bool false, .bool false, .int .i64 0, .int .i64 0, .int .i64 0, .int .i64 0, .int .i64 0, .int .i64 0, .slice none 0 0, .string ⟨#[]⟩] 30 (0, 0)) from by rw [← hWa]; exact (Below.heap_alloc _ _ _ (by simp)).trans (heap_alloc_new W _))
  have HDa := Lib.hid (show Du W (W.heap.size + 1) ⟨s, 0, 0⟩ Wa from by rw [← hWa]; exact ⟨⟨by have h0 := heap_alloc_new (W.alloc (.cells #[.int .i64 0, .bool false, .int .i64 0, .int .i64 0, .int .i64 0, .int .i64 0, .int .i64 0, .int .i64 0, .int .i64 0, .bool false, .bool false, .int .i64 0, .int .i64 0, .int .i64 0, .int .i64 0, .int .i64 0, .int .i64 0, .slice none 0 0, .string ⟨#[]⟩] 30)) (.cells #[.string s, .int .i64 0, .int .i64 0] 58); rwa [World.size_alloc] at h0, Nat.le_succ _⟩, below_alloc (below_alloc (Below.refl _ _) _) _⟩)
  have nrc : W.heap.size ≠ (W.heap.size + 1) := by omega
  go_enter Try.func9, Try.ntmps9
  go_upto_region 2 with (fail)
  try rw [hWa]
  clear hWa
  go_wp2_with fail
  refine (rint_k W (W.heap.size + 1) ⟨s, 0, 0⟩ 1 k q1 Wa HDa.out O0.out (by first | exact .inl rfl | exact .inr (.inl rfl) | exact .inr (.inr rfl)) E0.out).mono ?_
  rintro en W1 ⟨rfl, h1, hk⟩
  have HD1 := Lib.hid h1
  have HR1 := Lib.hid (hk.blk HRa.out nrc)
  clear h1 hk
  have y1 : W1.cell? ⟨(W.heap.size + 1), 2, none⟩ = some (.int .i64 q1.ce) := (blk_cell HD1.out.1.1 2).trans rfl
  have d1 : (q1.ce != 0) = true := by simpa using hc
  clear hc
  have yd : W1.drew.cell? ⟨(W.heap.size + 1), 2, none⟩ = some (.int .i64 q1.ce) := y1
  have hst : X.rowAt W1.drew W.heap.size 30 19 = true := X.rowAt_of (blk_drew HR1.out) rfl
  have kp := kp51 (blk_drew HD1.out.1.1) (Ne.symm nrc) #[.int .i64 0, .bool false, .int .i64 0, .int .i64 0, .int .i64 0, .int .i64 0, .int .i64 0, .int .i64 0, .int .i64 0, .bool false, .bool false, .int .i64 0, .int .i64 0, .int .i64 0, .int .i64 0, .int .i64 0, .int .i64 0, .slice none 0 0, .string ⟨#[]⟩]
  have hst2 : X.rowAt W1 W.heap.size 30 19 = true := X.rowAt_of HR1.out rfl
  have kp2 := kp51 HD1.out.1.1 (Ne.symm nrc) #[.int .i64 0, .bool false, .int .i64 0, .int .i64 0, .int .i64 0, .int .i64 0, .int .i64 0, .int .i64 0, .int .i64 0, .bool false, .bool false, .int .i64 0, .int .i64 0, .int .i64 0, .int .i64 0, .int .i64 0, .int .i64 0, .slice none 0 0, .string ⟨#[]⟩]
  go_upto_region 4 with (fail)
  go_cut [3, 4] (fun s3 s4 wx => s3 = .int .i64 (0) ∧ s4 = .int .i64 (q1.ce) ∧ Hid (wx.heap[W.heap.size]? = some (.cells #[.int .i64 0, .bool false, .int .i64 0, .int .i64 0, .int .i64 0, .int .i64 0, .int .i64 0, .int .i64 0, .int .i64 0, .bool false, .bool false, .int .i64 0, .int .i64 0, .int .i64 0, .int .i64 0, .int .i64 0, .int .i64 0, .slice none 0 0, .string ⟨#[]⟩] 30 (0, 0))) ∧ Hid (Below W.heap.size W wx))
  case first =>
    go_region_held3 (fun w' => w'.cell? ⟨(W.heap.size + 1), 2, none⟩ = some (.int .i64 q1.ce)) (first | go_keep | exact kp | exact kp2) (fail)
    all_goals
      go_wp2_with fail
      go_meet
      exact ⟨rfl, rfl, Lib.hid (by first | exact setRow_heap _ _ _ _ _ _ (blk_drew HR1.out) | exact setRow_heap _ _ _ _ _ _ HR1.out), Lib.hid (by first | exact X.below_row (Below.drew HD1.out.low) (Nat.le_refl _) _ | exact X.below_row HD1.out.low (Nat.le_refl _) _)⟩
  case rest =>
    obtain ⟨rfl, rfl, HYz, HBz⟩ := hcut
    clear hst kp kp2 hst2 yd
    go_wp2_with fail
    have hres := HRES.out
    simp only [Prod.mk.injEq] at hres
    obtain ⟨rfl, rfl, rfl, rfl, rfl, rfl, rfl, rfl, rfl, rfl, rfl, rfl, rfl, rfl, rfl, rfl, rfl, rfl, rfl, rfl, rfl⟩ := hres
    refine bodyPost_ret (results_ctt rfl _ _ W.heap.size 30 #[.int .i64 0, .bool false, .int .i64 0, .int .i64 0, .int .i64 0, .int .i64 0, .int .i64 0, .int .i64 0, .int .i64 0, .bool false, .bool false, .int .i64 0, .int .i64 0, .int .i64 0, .int .i64 0, .int .i64 0, .int .i64 0, .slice none 0 0, .string ⟨#[]⟩] (0, 0) _ rfl (by with_reducible exact HYz.out) Try.underlying30 rfl (by kernel_rfl)) rfl ?_
    exact ⟨_, rfl, Kd.R_of_own (enc := Value.int .i64) (World.ownsRow_nil _ _ _ _) (fun _ _ => trivial), HBz.out⟩
set_option maxHeartbeats 8000000 in
set_option maxRecDepth 100000 in
theorem dp_3 (s : ByteArray) (W : World) (o0 : Ok ⟨s, 0, 0⟩) (k : Int) (q1 : CS) (e0 : intC ⟨s, 0, 0⟩ 1 = some (k, q1)) (o1 : Ok q1) (f : Int) (q2 : CS) (e1 : intC q1 1 = some (f, q2)) (o2 : Ok q2) (x : Int) (q3 : CS) (e2 : intC q2 2 = some (x, q3)) (o3 : Ok q3) (y : Int) (q4 : CS) (e3 : intC q3 2 = some (y, q4)) (o4 : Ok q4) (w_ : Int) (q5 : CS) (e4 : intC q4 2 = some (w_, q5)) (o5 : Ok q5) (h_ : Int) (q6 : CS) (e5 : intC q5 2 = some (h_, q6)) (o6 : Ok q6) (hc0 : q1.ce = 0) (hk : k = 3)  (r0 : Int) (r1 : Bool) (r2 : Int) (r3 : Int) (r4 : Int) (r5 : Int) (r6 : Int) (r7 : Int) (r8 : Int) (r9 : Bool) (r10 : Bool) (r11 : Int) (r12 : Int) (r13 : Int) (r14 : Int) (r15 : Int) (r16 : Int) (r17 : List Int) (r18 : ByteArray) (n e : Int) (hres : (if q6.ce = 0 then (2, (f != 0), 0, x, y, w_, h_, 0, 0, false, false, 0, 0, 0, 0, 0, 0, [], ⟨#[]⟩, q6.at_, 0) else (0, false, 0, 0, 0, 0, 0, 0, 0, false, false, 0, 0, 0, 0, 0, 0, [], ⟨#[]⟩, 0, q6.ce)) = (r0, r1, r2, r3, r4, r5, r6, r7, r8, r9, r10, r11, r12, r13, r14, r15, r16, r17, r18, n, e)) :
    Calls Try.prog 9 #[.string s] W fun en w' => ∃ v0_ : Value, en = .returned (.tuple #[.agg #[.int .i64 r0, .bool r1, .int .i64 r2, .int .i64 r3, .int .i64 r4, .int .i64 r5, .int .i64 r6, .int .i64 r7, .int .i64 r8, .bool r9, .bool r10, .int .i64 r11, .int .i64 r12, .int .i64 r13, .int .i64 r14, .int .i64 r15, .int .i64 r16, v0_, .string r18], .int .i64 n, .int .i64 e]) ∧ Kd.R (Kd.int .i64) 3 w' W.heap.size (fun _ => True) v0_ r17 ∧ Below W.heap.size W w' := by
  have E0 := Lib.hid e0
  have E1 := Lib.hid e1
  have E2 := Lib.hid e2
  have E3 := Lib.hid e3
  have E4 := Lib.hid e4
  have E5 := Lib.hid e5
  have O0 := Lib.hid o0
  have O1 := Lib.hid o1
  have O2 := Lib.hid o2
  have O3 := Lib.hid o3
  have O4 := Lib.hid o4
  have O5 := Lib.hid o5
  have O6 := Lib.hid o6
  have HRES := Lib.hid hres
  clear hres e0 e1 e2 e3 e4 e5 o0 o1 o2 o3 o4 o5 o6
  obtain ⟨Wa, hWa⟩ : ∃ X, (W.alloc (.cells #[.int .i64 0, .bool false, .int .i64 0, .int .i64 0, .int .i64 0, .int .i64 0, .int .i64 0, .int .i64 0, .int .i64 0, .bool false, .bool false, .int .i64 0, .int .i64 0, .int .i64 0, .int .i64 0, .int .i64 0, .int .i64 0, .slice none 0 0, .string ⟨#[]⟩] 30)).alloc (.cells #[.string s, .int .i64 0, .int .i64 0] 58) = X := ⟨_, rfl⟩
  have HRa := Lib.hid (show Wa.heap[W.heap.size]? = some (.cells #[.int .i64 0, .bool false, .int .i64 0, .int .i64 0, .int .i64 0, .int .i64 0, .int .i64 0, .int .i64 0, .int .i64 0, .bool false, .bool false, .int .i64 0, .int .i64 0, .int .i64 0, .int .i64 0, .int .i64 0, .int .i64 0, .slice none 0 0, .string ⟨#[]⟩] 30 (0, 0)) from by rw [← hWa]; exact (Below.heap_alloc _ _ _ (by simp)).trans (heap_alloc_new W _))
  have HDa := Lib.hid (show Du W (W.heap.size + 1) ⟨s, 0, 0⟩ Wa from by rw [← hWa]; exact ⟨⟨by have h0 := heap_alloc_new (W.alloc (.cells #[.int .i64 0, .bool false, .int .i64 0, .int .i64 0, .int .i64 0, .int .i64 0, .int .i64 0, .int .i64 0, .int .i64 0, .bool false, .bool false, .int .i64 0, .int .i64 0, .int .i64 0, .int .i64 0, .int .i64 0, .int .i64 0, .slice none 0 0, .string ⟨#[]⟩] 30)) (.cells #[.string s, .int .i64 0, .int .i64 0] 58); rwa [World.size_alloc] at h0, Nat.le_succ _⟩, below_alloc (below_alloc (Below.refl _ _) _) _⟩)
  have nrc : W.heap.size ≠ (W.heap.size + 1) := by omega
  go_enter Try.func9, Try.ntmps9
  go_upto_region 2 with (fail)
  try rw [hWa]
  clear hWa
  go_wp2_with fail
  refine (rint_k W (W.heap.size + 1) ⟨s, 0, 0⟩ 1 k q1 Wa HDa.out O0.out (by first | exact .inl rfl | exact .inr (.inl rfl) | exact .inr (.inr rfl)) E0.out).mono ?_
  rintro en W1 ⟨rfl, h1, hk⟩
  have HD1 := Lib.hid h1
  have HR1 := Lib.hid (hk.blk HRa.out nrc)
  clear h1 hk
  have y1 : W1.cell? ⟨(W.heap.size + 1), 2, none⟩ = some (.int .i64 q1.ce) := (blk_cell HD1.out.1.1 2).trans rfl
  subst hk
  rw [hc0] at y1
  clear hc0
  obtain ⟨Wm, hWm⟩ : ∃ X, W1.alloc (.cells #[.int .i64 0, .bool false, .int .i64 0, .int .i64 0, .int .i64 0, .int .i64 0, .int .i64 0, .int .i64 0, .int .i64 0, .bool false, .bool false, .int .i64 0, .int .i64 0, .int .i64 0, .int .i64 0, .int .i64 0, .int .i64 0, .slice none 0 0, .string ⟨#[]⟩] 30) = X := ⟨_, rfl⟩
  have hbm := below_alloc (Below.refl W1.heap.size W1) (.cells #[.int .i64 0, .bool false, .int .i64 0, .int .i64 0, .int .i64 0, .int .i64 0, .int .i64 0, .int .i64 0, .int .i64 0, .bool false, .bool false, .int .i64 0, .int .i64 0, .int .i64 0, .int .i64 0, .int .i64 0, .int .i64 0, .slice none 0 0, .string ⟨#[]⟩] 30)
  rw [hWm] at hbm
  have HDm := Lib.hid (HD1.out.below hbm)
  have HRm := Lib.hid (blk_below HR1.out hbm)
  have HMm := Lib.hid (show Wm.heap[W1.heap.size]? = some (.cells #[.int .i64 0, .bool false, .int .i64 0, .int .i64 0, .int .i64 0, .int .i64 0, .int .i64 0, .int .i64 0, .int .i64 0, .bool false, .bool false, .int .i64 0, .int .i64 0, .int .i64 0, .int .i64 0, .int .i64 0, .int .i64 0, .slice none 0 0, .string ⟨#[]⟩] 30 (0, 0)) from by rw [← hWm]; exact heap_alloc_new W1 _)
  have hc9 := HD1.out.lt
  have nmc : W1.heap.size ≠ (W.heap.size + 1) := by omega
  have nmr : W.heap.size ≠ W1.heap.size := by omega
  have hmg : W.heap.size + 1 < W1.heap.size := by omega
  go_upto_region 6 with (fail)
  try rw [hWm]
  clear hWm hbm hc9 y1 HD1 HR1
  obtain ⟨mb, hmb⟩ : ∃ x, W1.heap.size = x := ⟨_, rfl⟩
  rw [hmb] at HMm nmc nmr hmg ⊢
  clear hmb
  have fz : Wm.frozen? ⟨mb, 0, none⟩ = false := blk_frozen HMm.out _
  have yz : Wm.cell? ⟨mb, 0, none⟩ = some (.int .i64 0) := (blk_cell HMm.out 0).trans rfl
  obtain ⟨Wb, hV⟩ : ∃ X, Wm.setCell ⟨mb, 0, none⟩ (.int .i64 2) = X := ⟨_, rfl⟩
  have HMb := Lib.hid (show Wb.heap[mb]? = some (.cells #[.int .i64 2, .bool false, .int .i64 0, .int .i64 0, .int .i64 0, .int .i64 0, .int .i64 0, .int .i64 0, .int .i64 0, .bool false, .bool false, .int .i64 0, .int .i64 0, .int .i64 0, .int .i64 0, .int .i64 0, .int .i64 0, .slice none 0 0, .string ⟨#[]⟩] 30 (0, 0)) from by rw [← hV]; exact blk_put HMm.out 0 _ rfl)
  have HRb := Lib.hid (show Wb.heap[W.heap.size]? = some (.cells #[.int .i64 0, .bool false, .int .i64 0, .int .i64 0, .int .i64 0, .int .i64 0, .int .i64 0, .int .i64 0, .int .i64 0, .bool false, .bool false, .int .i64 0, .int .i64 0, .int .i64 0, .int .i64 0, .int .i64 0, .int .i64 0, .slice none 0 0, .string ⟨#[]⟩] 30 (0, 0)) from by rw [← hV]; exact blk_far HRm.out (by exact nmr) _)
  have HDb := Lib.hid (show Du W (W.heap.size + 1) q1 Wb from by rw [← hV]; exact HDm.out.far (p := ⟨mb, 0, none⟩) (by exact nmc) (by show W.heap.size ≤ mb; omega) _)
  go_upto_region 28 with (fail)
  try rw [hV]
  clear hV fz yz HMm HRm HDm
  go_wp2_with fail
  refine (rint_k W (W.heap.size + 1) q1 1 f q2 Wb HDb.out O1.out (by first | exact .inl rfl | exact .inr (.inl rfl) | exact .inr (.inr rfl)) E1.out).mono ?_
  rintro en W2 ⟨rfl, h1, hk⟩
  have HD2 := Lib.hid h1
  have HR2 := Lib.hid (hk.blk HRb.out nrc)
  have HM2 := Lib.hid (hk.blk HMb.out nmc)
  clear h1 hk
  have y2 : W2.cell? ⟨(W.heap.size + 1), 2, none⟩ = some (.int .i64 q2.ce) := (blk_cell HD2.out.1.1 2).trans rfl
  have fz : W2.frozen? ⟨mb, 1, none⟩ = false := blk_frozen HM2.out _
  have yz : W2.cell? ⟨mb, 1, none⟩ = some (.bool false) := (blk_cell HM2.out 1).trans rfl
  obtain ⟨Wc, hV⟩ : ∃ X, W2.setCell ⟨mb, 1, none⟩ (.bool (f != 0)) = X := ⟨_, rfl⟩
  have HMc := Lib.hid (show Wc.heap[mb]? = some (.cells #[.int .i64 2, .bool (f != 0), .int .i64 0, .int .i64 0, .int .i64 0, .int .i64 0, .int .i64 0, .int .i64 0, .int .i64 0, .bool false, .bool false, .int .i64 0, .int .i64 0, .int .i64 0, .int .i64 0, .int .i64 0, .int .i64 0, .slice none 0 0, .string ⟨#[]⟩] 30 (0, 0)) from by rw [← hV]; exact blk_put HM2.out 1 _ rfl)
  have HRc := Lib.hid (show Wc.heap[W.heap.size]? = some (.cells #[.int .i64 0, .bool false, .int .i64 0, .int .i64 0, .int .i64 0, .int .i64 0, .int .i64 0, .int .i64 0, .int .i64 0, .bool false, .bool false, .int .i64 0, .int .i64 0, .int .i64 0, .int .i64 0, .int .i64 0, .int .i64 0, .slice none 0 0, .string ⟨#[]⟩] 30 (0, 0)) from by rw [← hV]; exact blk_far HR2.out (by exact nmr) _)
  have HDc := Lib.hid (show Du W (W.heap.size + 1) q2 Wc from by rw [← hV]; exact HD2.out.far (p := ⟨mb, 1, none⟩) (by exact nmc) (by show W.heap.size ≤ mb; omega) _)
  go_upto_region 29 with (fail)
  try rw [hV]
  clear hV fz yz HM2 HR2 HD2 y2
  go_wp2_with fail
  refine (rint_k W (W.heap.size + 1) q2 2 x q3 Wc HDc.out O2.out (by first | exact .inl rfl | exact .inr (.inl rfl) | exact .inr (.inr rfl)) E2.out).mono ?_
  rintro en W3 ⟨rfl, h1, hk⟩
  have HD3 := Lib.hid h1
  have HR3 := Lib.hid (hk.blk HRc.out nrc)
  have HM3 := Lib.hid (hk.blk HMc.out nmc)
  clear h1 hk
  have y3 : W3.cell? ⟨(W.heap.size + 1), 2, none⟩ = some (.int .i64 q3.ce) := (blk_cell HD3.out.1.1 2).trans rfl
  have fz : W3.frozen? ⟨mb, 3, none⟩ = false := blk_frozen HM3.out _
  have yz : W3.cell? ⟨mb, 3, none⟩ = some (.int .i64 0) := (blk_cell HM3.out 3).trans rfl
  obtain ⟨Wd, hV⟩ : ∃ X, W3.setCell ⟨mb, 3, none⟩ (.int .i64 x) = X := ⟨_, rfl⟩
  have HMd := Lib.hid (show Wd.heap[mb]? = some (.cells #[.int .i64 2, .bool (f != 0), .int .i64 0, .int .i64 x, .int .i64 0, .int .i64 0, .int .i64 0, .int .i64 0, .int .i64 0, .bool false, .bool false, .int .i64 0, .int .i64 0, .int .i64 0, .int .i64 0, .int .i64 0, .int .i64 0, .slice none 0 0, .string ⟨#[]⟩] 30 (0, 0)) from by rw [← hV]; exact blk_put HM3.out 3 _ rfl)
  have HRd := Lib.hid (show Wd.heap[W.heap.size]? = some (.cells #[.int .i64 0, .bool false, .int .i64 0, .int .i64 0, .int .i64 0, .int .i64 0, .int .i64 0, .int .i64 0, .int .i64 0, .bool false, .bool false, .int .i64 0, .int .i64 0, .int .i64 0, .int .i64 0, .int .i64 0, .int .i64 0, .slice none 0 0, .string ⟨#[]⟩] 30 (0, 0)) from by rw [← hV]; exact blk_far HR3.out (by exact nmr) _)
  have HDd := Lib.hid (show Du W (W.heap.size + 1) q3 Wd from by rw [← hV]; exact HD3.out.far (p := ⟨mb, 3, none⟩) (by exact nmc) (by show W.heap.size ≤ mb; omega) _)
  go_upto_region 30 with (fail)
  try rw [hV]
  clear hV fz yz HM3 HR3 HD3 y3
  go_wp2_with fail
  refine (rint_k W (W.heap.size + 1) q3 2 y q4 Wd HDd.out O3.out (by first | exact .inl rfl | exact .inr (.inl rfl) | exact .inr (.inr rfl)) E3.out).mono ?_
  rintro en W4 ⟨rfl, h1, hk⟩
  have HD4 := Lib.hid h1
  have HR4 := Lib.hid (hk.blk HRd.out nrc)
  have HM4 := Lib.hid (hk.blk HMd.out nmc)
  clear h1 hk
  have y4 : W4.cell? ⟨(W.heap.size + 1), 2, none⟩ = some (.int .i64 q4.ce) := (blk_cell HD4.out.1.1 2).trans rfl
  have fz : W4.frozen? ⟨mb, 4, none⟩ = false := blk_frozen HM4.out _
  have yz : W4.cell? ⟨mb, 4, none⟩ = some (.int .i64 0) := (blk_cell HM4.out 4).trans rfl
  obtain ⟨We, hV⟩ : ∃ X, W4.setCell ⟨mb, 4, none⟩ (.int .i64 y) = X := ⟨_, rfl⟩
  have HMe := Lib.hid (show We.heap[mb]? = some (.cells #[.int .i64 2, .bool (f != 0), .int .i64 0, .int .i64 x, .int .i64 y, .int .i64 0, .int .i64 0, .int .i64 0, .int .i64 0, .bool false, .bool false, .int .i64 0, .int .i64 0, .int .i64 0, .int .i64 0, .int .i64 0, .int .i64 0, .slice none 0 0, .string ⟨#[]⟩] 30 (0, 0)) from by rw [← hV]; exact blk_put HM4.out 4 _ rfl)
  have HRe := Lib.hid (show We.heap[W.heap.size]? = some (.cells #[.int .i64 0, .bool false, .int .i64 0, .int .i64 0, .int .i64 0, .int .i64 0, .int .i64 0, .int .i64 0, .int .i64 0, .bool false, .bool false, .int .i64 0, .int .i64 0, .int .i64 0, .int .i64 0, .int .i64 0, .int .i64 0, .slice none 0 0, .string ⟨#[]⟩] 30 (0, 0)) from by rw [← hV]; exact blk_far HR4.out (by exact nmr) _)
  have HDe := Lib.hid (show Du W (W.heap.size + 1) q4 We from by rw [← hV]; exact HD4.out.far (p := ⟨mb, 4, none⟩) (by exact nmc) (by show W.heap.size ≤ mb; omega) _)
  go_upto_region 31 with (fail)
  try rw [hV]
  clear hV fz yz HM4 HR4 HD4 y4
  go_wp2_with fail
  refine (rint_k W (W.heap.size + 1) q4 2 w_ q5 We HDe.out O4.out (by first | exact .inl rfl | exact .inr (.inl rfl) | exact .inr (.inr rfl)) E4.out).mono ?_
  rintro en W5 ⟨rfl, h1, hk⟩
  have HD5 := Lib.hid h1
  have HR5 := Lib.hid (hk.blk HRe.out nrc)
  have HM5 := Lib.hid (hk.blk HMe.out nmc)
  clear h1 hk
  have y5 : W5.cell? ⟨(W.heap.size + 1), 2, none⟩ = some (.int .i64 q5.ce) := (blk_cell HD5.out.1.1 2).trans rfl
  have fz : W5.frozen? ⟨mb, 5, none⟩ = false := blk_frozen HM5.out _
  have yz : W5.cell? ⟨mb, 5, none⟩ = some (.int .i64 0) := (blk_cell HM5.out 5).trans rfl
  obtain ⟨Wf, hV⟩ : ∃ X, W5.setCell ⟨mb, 5, none⟩ (.int .i64 w_) = X := ⟨_, rfl⟩
  have HMf := Lib.hid (show Wf.heap[mb]? = some (.cells #[.int .i64 2, .bool (f != 0), .int .i64 0, .int .i64 x, .int .i64 y, .int .i64 w_, .int .i64 0, .int .i64 0, .int .i64 0, .bool false, .bool false, .int .i64 0, .int .i64 0, .int .i64 0, .int .i64 0, .int .i64 0, .int .i64 0, .slice none 0 0, .string ⟨#[]⟩] 30 (0, 0)) from by rw [← hV]; exact blk_put HM5.out 5 _ rfl)
  have HRf := Lib.hid (show Wf.heap[W.heap.size]? = some (.cells #[.int .i64 0, .bool false, .int .i64 0, .int .i64 0, .int .i64 0, .int .i64 0, .int .i64 0, .int .i64 0, .int .i64 0, .bool false, .bool false, .int .i64 0, .int .i64 0, .int .i64 0, .int .i64 0, .int .i64 0, .int .i64 0, .slice none 0 0, .string ⟨#[]⟩] 30 (0, 0)) from by rw [← hV]; exact blk_far HR5.out (by exact nmr) _)
  have HDf := Lib.hid (show Du W (W.heap.size + 1) q5 Wf from by rw [← hV]; exact HD5.out.far (p := ⟨mb, 5, none⟩) (by exact nmc) (by show W.heap.size ≤ mb; omega) _)
  go_upto_region 32 with (fail)
  try rw [hV]
  clear hV fz yz HM5 HR5 HD5 y5
  go_wp2_with fail
  refine (rint_k W (W.heap.size + 1) q5 2 h_ q6 Wf HDf.out O5.out (by first | exact .inl rfl | exact .inr (.inl rfl) | exact .inr (.inr rfl)) E5.out).mono ?_
  rintro en W6 ⟨rfl, h1, hk⟩
  have HD6 := Lib.hid h1
  have HR6 := Lib.hid (hk.blk HRf.out nrc)
  have HM6 := Lib.hid (hk.blk HMf.out nmc)
  clear h1 hk
  have y6 : W6.cell? ⟨(W.heap.size + 1), 2, none⟩ = some (.int .i64 q6.ce) := (blk_cell HD6.out.1.1 2).trans rfl
  have fz : W6.frozen? ⟨mb, 6, none⟩ = false := blk_frozen HM6.out _
  have yz : W6.cell? ⟨mb, 6, none⟩ = some (.int .i64 0) := (blk_cell HM6.out 6).trans rfl
  obtain ⟨Wg, hV⟩ : ∃ X, W6.setCell ⟨mb, 6, none⟩ (.int .i64 h_) = X := ⟨_, rfl⟩
  have HMg := Lib.hid (show Wg.heap[mb]? = some (.cells #[.int .i64 2, .bool (f != 0), .int .i64 0, .int .i64 x, .int .i64 y, .int .i64 w_, .int .i64 h_, .int .i64 0, .int .i64 0, .bool false, .bool false, .int .i64 0, .int .i64 0, .int .i64 0, .int .i64 0, .int .i64 0, .int .i64 0, .slice none 0 0, .string ⟨#[]⟩] 30 (0, 0)) from by rw [← hV]; exact blk_put HM6.out 6 _ rfl)
  have HRg := Lib.hid (show Wg.heap[W.heap.size]? = some (.cells #[.int .i64 0, .bool false, .int .i64 0, .int .i64 0, .int .i64 0, .int .i64 0, .int .i64 0, .int .i64 0, .int .i64 0, .bool false, .bool false, .int .i64 0, .int .i64 0, .int .i64 0, .int .i64 0, .int .i64 0, .int .i64 0, .slice none 0 0, .string ⟨#[]⟩] 30 (0, 0)) from by rw [← hV]; exact blk_far HR6.out (by exact nmr) _)
  have HDg := Lib.hid (show Du W (W.heap.size + 1) q6 Wg from by rw [← hV]; exact HD6.out.far (p := ⟨mb, 6, none⟩) (by exact nmc) (by show W.heap.size ≤ mb; omega) _)
  go_upto_region 50 with (fail)
  try rw [hV]
  clear hV fz yz HM6 HR6 HD6 y6
  have yg : Wg.cell? ⟨(W.heap.size + 1), 2, none⟩ = some (.int .i64 q6.ce) := (blk_cell HDg.out.1.1 2).trans rfl
  by_cases hc : q6.ce = 0
  · as_aux_lemma =>
    have HRES := Lib.hid (show _ = _ from (if_pos hc).symm.trans HRES.out)
    rw [hc] at yg
    have yd1 : Wg.drew.cell? ⟨(W.heap.size + 1), 1, none⟩ = some (.int .i64 q6.at_) := (blk_cell HDg.out.1.1 1).trans rfl
    have yd2 : X.rowAt Wg.drew mb 30 19 = true := X.rowAt_of (blk_drew HMg.out) rfl
    have yd3 : X.cellsAt Wg.drew mb = #[.int .i64 2, .bool (f != 0), .int .i64 0, .int .i64 x, .int .i64 y, .int .i64 w_, .int .i64 h_, .int .i64 0, .int .i64 0, .bool false, .bool false, .int .i64 0, .int .i64 0, .int .i64 0, .int .i64 0, .int .i64 0, .int .i64 0, .slice none 0 0, .string ⟨#[]⟩] := X.cellsAt_of (blk_drew HMg.out)
    have hst : X.rowAt Wg.drew W.heap.size 30 19 = true := X.rowAt_of (blk_drew HRg.out) rfl
    have kp := kp52 (blk_drew HDg.out.1.1) (blk_drew HMg.out) rfl (Ne.symm nrc) (Ne.symm nmr) #[.int .i64 2, .bool (f != 0), .int .i64 0, .int .i64 x, .int .i64 y, .int .i64 w_, .int .i64 h_, .int .i64 0, .int .i64 0, .bool false, .bool false, .int .i64 0, .int .i64 0, .int .i64 0, .int .i64 0, .int .i64 0, .int .i64 0, .slice none 0 0, .string ⟨#[]⟩]
    go_upto_region 52 with (fail)
    go_cut [3, 4] (fun s3 s4 wx => s3 = .int .i64 (q6.at_) ∧ s4 = .int .i64 (0) ∧ Hid (wx.heap[W.heap.size]? = some (.cells #[.int .i64 2, .bool (f != 0), .int .i64 0, .int .i64 x, .int .i64 y, .int .i64 w_, .int .i64 h_, .int .i64 0, .int .i64 0, .bool false, .bool false, .int .i64 0, .int .i64 0, .int .i64 0, .int .i64 0, .int .i64 0, .int .i64 0, .slice none 0 0, .string ⟨#[]⟩] 30 (0, 0))) ∧ Hid (Below W.heap.size W wx))
    case first =>
      go_region_held3 (fun w' => w'.cell? ⟨(W.heap.size + 1), 1, none⟩ = some (.int .i64 q6.at_) ∧ X.rowAt w' mb 30 19 = true ∧ X.cellsAt w' mb = #[.int .i64 2, .bool (f != 0), .int .i64 0, .int .i64 x, .int .i64 y, .int .i64 w_, .int .i64 h_, .int .i64 0, .int .i64 0, .bool false, .bool false, .int .i64 0, .int .i64 0, .int .i64 0, .int .i64 0, .int .i64 0, .int .i64 0, .slice none 0 0, .string ⟨#[]⟩]) (first | go_keep | exact kp) (fail)
      all_goals
        go_wp2_with fail
        go_meet
        exact ⟨rfl, rfl, Lib.hid (by first | exact setRow_heap _ _ _ _ _ _ (blk_drew HRg.out) | exact setRow_heap _ _ _ _ _ _ HRg.out), Lib.hid (by first | exact X.below_row (Below.drew HDg.out.low) (Nat.le_refl _) _ | exact X.below_row HDg.out.low (Nat.le_refl _) _)⟩
    case rest =>
      obtain ⟨rfl, rfl, HYz, HBz⟩ := hcut
      clear hst kp yd1 yd2 yd3
      go_wp2_with fail
      have hres := HRES.out
      simp only [Prod.mk.injEq] at hres
      obtain ⟨rfl, rfl, rfl, rfl, rfl, rfl, rfl, rfl, rfl, rfl, rfl, rfl, rfl, rfl, rfl, rfl, rfl, rfl, rfl, rfl, rfl⟩ := hres
      refine bodyPost_ret (results_ctt rfl _ _ W.heap.size 30 #[.int .i64 2, .bool (f != 0), .int .i64 0, .int .i64 x, .int .i64 y, .int .i64 w_, .int .i64 h_, .int .i64 0, .int .i64 0, .bool false, .bool false, .int .i64 0, .int .i64 0, .int .i64 0, .int .i64 0, .int .i64 0, .int .i64 0, .slice none 0 0, .string ⟨#[]⟩] (0, 0) _ rfl (by with_reducible exact HYz.out) Try.underlying30 rfl (by kernel_rfl)) rfl ?_
      exact ⟨_, rfl, Kd.R_of_own (enc := Value.int .i64) (World.ownsRow_nil _ _ _ _) (fun _ _ => trivial), HBz.out⟩
  · as_aux_lemma =>
    have HRES := Lib.hid (show _ = _ from (if_neg hc).symm.trans HRES.out)
    have d9 : (q6.ce != 0) = true := by simpa using hc
    clear hc
    have yd : Wg.drew.cell? ⟨(W.heap.size + 1), 2, none⟩ = some (.int .i64 q6.ce) := yg
    have hst : X.rowAt Wg.drew W.heap.size 30 19 = true := X.rowAt_of (blk_drew HRg.out) rfl
    have kp := kp51 (blk_drew HDg.out.1.1) (Ne.symm nrc) #[.int .i64 0, .bool false, .int .i64 0, .int .i64 0, .int .i64 0, .int .i64 0, .int .i64 0, .int .i64 0, .int .i64 0, .bool false, .bool false, .int .i64 0, .int .i64 0, .int .i64 0, .int .i64 0, .int .i64 0, .int .i64 0, .slice none 0 0, .string ⟨#[]⟩]
    have hst2 : X.rowAt Wg W.heap.size 30 19 = true := X.rowAt_of HRg.out rfl
    have kp2 := kp51 HDg.out.1.1 (Ne.symm nrc) #[.int .i64 0, .bool false, .int .i64 0, .int .i64 0, .int .i64 0, .int .i64 0, .int .i64 0, .int .i64 0, .int .i64 0, .bool false, .bool false, .int .i64 0, .int .i64 0, .int .i64 0, .int .i64 0, .int .i64 0, .int .i64 0, .slice none 0 0, .string ⟨#[]⟩]
    go_upto_region 51 with (fail)
    go_cut [3, 4] (fun s3 s4 wx => s3 = .int .i64 (0) ∧ s4 = .int .i64 (q6.ce) ∧ Hid (wx.heap[W.heap.size]? = some (.cells #[.int .i64 0, .bool false, .int .i64 0, .int .i64 0, .int .i64 0, .int .i64 0, .int .i64 0, .int .i64 0, .int .i64 0, .bool false, .bool false, .int .i64 0, .int .i64 0, .int .i64 0, .int .i64 0, .int .i64 0, .int .i64 0, .slice none 0 0, .string ⟨#[]⟩] 30 (0, 0))) ∧ Hid (Below W.heap.size W wx))
    case first =>
      go_region_held3 (fun w' => w'.cell? ⟨(W.heap.size + 1), 2, none⟩ = some (.int .i64 q6.ce)) (first | go_keep | exact kp | exact kp2) (fail)
      all_goals
        go_wp2_with fail
        go_meet
        exact ⟨rfl, rfl, Lib.hid (by first | exact setRow_heap _ _ _ _ _ _ (blk_drew HRg.out) | exact setRow_heap _ _ _ _ _ _ HRg.out), Lib.hid (by first | exact X.below_row (Below.drew HDg.out.low) (Nat.le_refl _) _ | exact X.below_row HDg.out.low (Nat.le_refl _) _)⟩
    case rest =>
      obtain ⟨rfl, rfl, HYz, HBz⟩ := hcut
      clear hst kp kp2 hst2 yd
      go_wp2_with fail
      have hres := HRES.out
      simp only [Prod.mk.injEq] at hres
      obtain ⟨rfl, rfl, rfl, rfl, rfl, rfl, rfl, rfl, rfl, rfl, rfl, rfl, rfl, rfl, rfl, rfl, rfl, rfl, rfl, rfl, rfl⟩ := hres
      refine bodyPost_ret (results_ctt rfl _ _ W.heap.size 30 #[.int .i64 0, .bool false, .int .i64 0, .int .i64 0, .int .i64 0, .int .i64 0, .int .i64 0, .int .i64 0, .int .i64 0, .bool false, .bool false, .int .i64 0, .int .i64 0, .int .i64 0, .int .i64 0, .int .i64 0, .int .i64 0, .slice none 0 0, .string ⟨#[]⟩] (0, 0) _ rfl (by with_reducible exact HYz.out) Try.underlying30 rfl (by kernel_rfl)) rfl ?_
      exact ⟨_, rfl, Kd.R_of_own (enc := Value.int .i64) (World.ownsRow_nil _ _ _ _) (fun _ _ => trivial), HBz.out⟩
set_option maxHeartbeats 8000000 in
set_option maxRecDepth 100000 in
theorem dp_4 (s : ByteArray) (W : World) (o0 : Ok ⟨s, 0, 0⟩) (k : Int) (q1 : CS) (e0 : intC ⟨s, 0, 0⟩ 1 = some (k, q1)) (o1 : Ok q1) (f : Int) (q2 : CS) (e1 : intC q1 1 = some (f, q2)) (o2 : Ok q2) (b : ByteArray) (q3 : CS) (e2 : bytesC q2 2 = some (b, q3)) (o3 : Ok q3) (x : Int) (q4 : CS) (e3 : intC q3 4 = some (x, q4)) (o4 : Ok q4) (hc0 : q1.ce = 0) (hk : k = 4)  (r0 : Int) (r1 : Bool) (r2 : Int) (r3 : Int) (r4 : Int) (r5 : Int) (r6 : Int) (r7 : Int) (r8 : Int) (r9 : Bool) (r10 : Bool) (r11 : Int) (r12 : Int) (r13 : Int) (r14 : Int) (r15 : Int) (r16 : Int) (r17 : List Int) (r18 : ByteArray) (n e : Int) (hres : (if q4.ce = 0 then (3, (f != 0), x, 0, 0, 0, 0, 0, 0, false, false, 0, 0, 0, 0, 0, 0, [], ⟨#[]⟩, q4.at_, 0) else (0, false, 0, 0, 0, 0, 0, 0, 0, false, false, 0, 0, 0, 0, 0, 0, [], ⟨#[]⟩, 0, q4.ce)) = (r0, r1, r2, r3, r4, r5, r6, r7, r8, r9, r10, r11, r12, r13, r14, r15, r16, r17, r18, n, e)) :
    Calls Try.prog 9 #[.string s] W fun en w' => ∃ v0_ : Value, en = .returned (.tuple #[.agg #[.int .i64 r0, .bool r1, .int .i64 r2, .int .i64 r3, .int .i64 r4, .int .i64 r5, .int .i64 r6, .int .i64 r7, .int .i64 r8, .bool r9, .bool r10, .int .i64 r11, .int .i64 r12, .int .i64 r13, .int .i64 r14, .int .i64 r15, .int .i64 r16, v0_, .string r18], .int .i64 n, .int .i64 e]) ∧ Kd.R (Kd.int .i64) 3 w' W.heap.size (fun _ => True) v0_ r17 ∧ Below W.heap.size W w' := by
  have E0 := Lib.hid e0
  have E1 := Lib.hid e1
  have E2 := Lib.hid e2
  have E3 := Lib.hid e3
  have O0 := Lib.hid o0
  have O1 := Lib.hid o1
  have O2 := Lib.hid o2
  have O3 := Lib.hid o3
  have O4 := Lib.hid o4
  have HRES := Lib.hid hres
  clear hres e0 e1 e2 e3 o0 o1 o2 o3 o4
  obtain ⟨Wa, hWa⟩ : ∃ X, (W.alloc (.cells #[.int .i64 0, .bool false, .int .i64 0, .int .i64 0, .int .i64 0, .int .i64 0, .int .i64 0, .int .i64 0, .int .i64 0, .bool false, .bool false, .int .i64 0, .int .i64 0, .int .i64 0, .int .i64 0, .int .i64 0, .int .i64 0, .slice none 0 0, .string ⟨#[]⟩] 30)).alloc (.cells #[.string s, .int .i64 0, .int .i64 0] 58) = X := ⟨_, rfl⟩
  have HRa := Lib.hid (show Wa.heap[W.heap.size]? = some (.cells #[.int .i64 0, .bool false, .int .i64 0, .int .i64 0, .int .i64 0, .int .i64 0, .int .i64 0, .int .i64 0, .int .i64 0, .bool false, .bool false, .int .i64 0, .int .i64 0, .int .i64 0, .int .i64 0, .int .i64 0, .int .i64 0, .slice none 0 0, .string ⟨#[]⟩] 30 (0, 0)) from by rw [← hWa]; exact (Below.heap_alloc _ _ _ (by simp)).trans (heap_alloc_new W _))
  have HDa := Lib.hid (show Du W (W.heap.size + 1) ⟨s, 0, 0⟩ Wa from by rw [← hWa]; exact ⟨⟨by have h0 := heap_alloc_new (W.alloc (.cells #[.int .i64 0, .bool false, .int .i64 0, .int .i64 0, .int .i64 0, .int .i64 0, .int .i64 0, .int .i64 0, .int .i64 0, .bool false, .bool false, .int .i64 0, .int .i64 0, .int .i64 0, .int .i64 0, .int .i64 0, .int .i64 0, .slice none 0 0, .string ⟨#[]⟩] 30)) (.cells #[.string s, .int .i64 0, .int .i64 0] 58); rwa [World.size_alloc] at h0, Nat.le_succ _⟩, below_alloc (below_alloc (Below.refl _ _) _) _⟩)
  have nrc : W.heap.size ≠ (W.heap.size + 1) := by omega
  go_enter Try.func9, Try.ntmps9
  go_upto_region 2 with (fail)
  try rw [hWa]
  clear hWa
  go_wp2_with fail
  refine (rint_k W (W.heap.size + 1) ⟨s, 0, 0⟩ 1 k q1 Wa HDa.out O0.out (by first | exact .inl rfl | exact .inr (.inl rfl) | exact .inr (.inr rfl)) E0.out).mono ?_
  rintro en W1 ⟨rfl, h1, hk⟩
  have HD1 := Lib.hid h1
  have HR1 := Lib.hid (hk.blk HRa.out nrc)
  clear h1 hk
  have y1 : W1.cell? ⟨(W.heap.size + 1), 2, none⟩ = some (.int .i64 q1.ce) := (blk_cell HD1.out.1.1 2).trans rfl
  subst hk
  rw [hc0] at y1
  clear hc0
  obtain ⟨Wm, hWm⟩ : ∃ X, W1.alloc (.cells #[.int .i64 0, .bool false, .int .i64 0, .int .i64 0, .int .i64 0, .int .i64 0, .int .i64 0, .int .i64 0, .int .i64 0, .bool false, .bool false, .int .i64 0, .int .i64 0, .int .i64 0, .int .i64 0, .int .i64 0, .int .i64 0, .slice none 0 0, .string ⟨#[]⟩] 30) = X := ⟨_, rfl⟩
  have hbm := below_alloc (Below.refl W1.heap.size W1) (.cells #[.int .i64 0, .bool false, .int .i64 0, .int .i64 0, .int .i64 0, .int .i64 0, .int .i64 0, .int .i64 0, .int .i64 0, .bool false, .bool false, .int .i64 0, .int .i64 0, .int .i64 0, .int .i64 0, .int .i64 0, .int .i64 0, .slice none 0 0, .string ⟨#[]⟩] 30)
  rw [hWm] at hbm
  have HDm := Lib.hid (HD1.out.below hbm)
  have HRm := Lib.hid (blk_below HR1.out hbm)
  have HMm := Lib.hid (show Wm.heap[W1.heap.size]? = some (.cells #[.int .i64 0, .bool false, .int .i64 0, .int .i64 0, .int .i64 0, .int .i64 0, .int .i64 0, .int .i64 0, .int .i64 0, .bool false, .bool false, .int .i64 0, .int .i64 0, .int .i64 0, .int .i64 0, .int .i64 0, .int .i64 0, .slice none 0 0, .string ⟨#[]⟩] 30 (0, 0)) from by rw [← hWm]; exact heap_alloc_new W1 _)
  have hc9 := HD1.out.lt
  have nmc : W1.heap.size ≠ (W.heap.size + 1) := by omega
  have nmr : W.heap.size ≠ W1.heap.size := by omega
  have hmg : W.heap.size + 1 < W1.heap.size := by omega
  go_upto_region 6 with (fail)
  try rw [hWm]
  clear hWm hbm hc9 y1 HD1 HR1
  obtain ⟨mb, hmb⟩ : ∃ x, W1.heap.size = x := ⟨_, rfl⟩
  rw [hmb] at HMm nmc nmr hmg ⊢
  clear hmb
  have fz : Wm.frozen? ⟨mb, 0, none⟩ = false := blk_frozen HMm.out _
  have yz : Wm.cell? ⟨mb, 0, none⟩ = some (.int .i64 0) := (blk_cell HMm.out 0).trans rfl
  obtain ⟨Wb, hV⟩ : ∃ X, Wm.setCell ⟨mb, 0, none⟩ (.int .i64 3) = X := ⟨_, rfl⟩
  have HMb := Lib.hid (show Wb.heap[mb]? = some (.cells #[.int .i64 3, .bool false, .int .i64 0, .int .i64 0, .int .i64 0, .int .i64 0, .int .i64 0, .int .i64 0, .int .i64 0, .bool false, .bool false, .int .i64 0, .int .i64 0, .int .i64 0, .int .i64 0, .int .i64 0, .int .i64 0, .slice none 0 0, .string ⟨#[]⟩] 30 (0, 0)) from by rw [← hV]; exact blk_put HMm.out 0 _ rfl)
  have HRb := Lib.hid (show Wb.heap[W.heap.size]? = some (.cells #[.int .i64 0, .bool false, .int .i64 0, .int .i64 0, .int .i64 0, .int .i64 0, .int .i64 0, .int .i64 0, .int .i64 0, .bool false, .bool false, .int .i64 0, .int .i64 0, .int .i64 0, .int .i64 0, .int .i64 0, .int .i64 0, .slice none 0 0, .string ⟨#[]⟩] 30 (0, 0)) from by rw [← hV]; exact blk_far HRm.out (by exact nmr) _)
  have HDb := Lib.hid (show Du W (W.heap.size + 1) q1 Wb from by rw [← hV]; exact HDm.out.far (p := ⟨mb, 0, none⟩) (by exact nmc) (by show W.heap.size ≤ mb; omega) _)
  go_upto_region 35 with (fail)
  try rw [hV]
  clear hV fz yz HMm HRm HDm
  go_wp2_with fail
  refine (rint_k W (W.heap.size + 1) q1 1 f q2 Wb HDb.out O1.out (by first | exact .inl rfl | exact .inr (.inl rfl) | exact .inr (.inr rfl)) E1.out).mono ?_
  rintro en W2 ⟨rfl, h1, hk⟩
  have HD2 := Lib.hid h1
  have HR2 := Lib.hid (hk.blk HRb.out nrc)
  have HM2 := Lib.hid (hk.blk HMb.out nmc)
  clear h1 hk
  have y2 : W2.cell? ⟨(W.heap.size + 1), 2, none⟩ = some (.int .i64 q2.ce) := (blk_cell HD2.out.1.1 2).trans rfl
  have fz : W2.frozen? ⟨mb, 1, none⟩ = false := blk_frozen HM2.out _
  have yz : W2.cell? ⟨mb, 1, none⟩ = some (.bool false) := (blk_cell HM2.out 1).trans rfl
  obtain ⟨Wc, hV⟩ : ∃ X, W2.setCell ⟨mb, 1, none⟩ (.bool (f != 0)) = X := ⟨_, rfl⟩
  have HMc := Lib.hid (show Wc.heap[mb]? = some (.cells #[.int .i64 3, .bool (f != 0), .int .i64 0, .int .i64 0, .int .i64 0, .int .i64 0, .int .i64 0, .int .i64 0, .int .i64 0, .bool false, .bool false, .int .i64 0, .int .i64 0, .int .i64 0, .int .i64 0, .int .i64 0, .int .i64 0, .slice none 0 0, .string ⟨#[]⟩] 30 (0, 0)) from by rw [← hV]; exact blk_put HM2.out 1 _ rfl)
  have HRc := Lib.hid (show Wc.heap[W.heap.size]? = some (.cells #[.int .i64 0, .bool false, .int .i64 0, .int .i64 0, .int .i64 0, .int .i64 0, .int .i64 0, .int .i64 0, .int .i64 0, .bool false, .bool false, .int .i64 0, .int .i64 0, .int .i64 0, .int .i64 0, .int .i64 0, .int .i64 0, .slice none 0 0, .string ⟨#[]⟩] 30 (0, 0)) from by rw [← hV]; exact blk_far HR2.out (by exact nmr) _)
  have HDc := Lib.hid (show Du W (W.heap.size + 1) q2 Wc from by rw [← hV]; exact HD2.out.far (p := ⟨mb, 1, none⟩) (by exact nmc) (by show W.heap.size ≤ mb; omega) _)
  go_upto_region 36 with (fail)
  try rw [hV]
  clear hV fz yz HM2 HR2 HD2 y2
  go_wp2_with fail
  refine (rbytes_k W (W.heap.size + 1) q2 2 b q3 Wc HDc.out O2.out  E2.out).mono ?_
  rintro en W3 ⟨rfl, h1, hk⟩
  have HD3 := Lib.hid h1
  have HR3 := Lib.hid (hk.blk HRc.out nrc)
  have HM3 := Lib.hid (hk.blk HMc.out nmc)
  clear h1 hk
  have y3 : W3.cell? ⟨(W.heap.size + 1), 2, none⟩ = some (.int .i64 q3.ce) := (blk_cell HD3.out.1.1 2).trans rfl
  go_wp2_with fail
  refine (rint_k W (W.heap.size + 1) q3 4 x q4 W3 HD3.out O3.out (by first | exact .inl rfl | exact .inr (.inl rfl) | exact .inr (.inr rfl)) E3.out).mono ?_
  rintro en W4 ⟨rfl, h1, hk⟩
  have HD4 := Lib.hid h1
  have HR4 := Lib.hid (hk.blk HR3.out nrc)
  have HM4 := Lib.hid (hk.blk HM3.out nmc)
  clear h1 hk
  have y4 : W4.cell? ⟨(W.heap.size + 1), 2, none⟩ = some (.int .i64 q4.ce) := (blk_cell HD4.out.1.1 2).trans rfl
  clear y3
  have fz : W4.frozen? ⟨mb, 2, none⟩ = false := blk_frozen HM4.out _
  have yz : W4.cell? ⟨mb, 2, none⟩ = some (.int .i64 0) := (blk_cell HM4.out 2).trans rfl
  obtain ⟨Wd, hV⟩ : ∃ X, W4.setCell ⟨mb, 2, none⟩ (.int .i64 x) = X := ⟨_, rfl⟩
  have HMd := Lib.hid (show Wd.heap[mb]? = some (.cells #[.int .i64 3, .bool (f != 0), .int .i64 x, .int .i64 0, .int .i64 0, .int .i64 0, .int .i64 0, .int .i64 0, .int .i64 0, .bool false, .bool false, .int .i64 0, .int .i64 0, .int .i64 0, .int .i64 0, .int .i64 0, .int .i64 0, .slice none 0 0, .string ⟨#[]⟩] 30 (0, 0)) from by rw [← hV]; exact blk_put HM4.out 2 _ rfl)
  have HRd := Lib.hid (show Wd.heap[W.heap.size]? = some (.cells #[.int .i64 0, .bool false, .int .i64 0, .int .i64 0, .int .i64 0, .int .i64 0, .int .i64 0, .int .i64 0, .int .i64 0, .bool false, .bool false, .int .i64 0, .int .i64 0, .int .i64 0, .int .i64 0, .int .i64 0, .int .i64 0, .slice none 0 0, .string ⟨#[]⟩] 30 (0, 0)) from by rw [← hV]; exact blk_far HR4.out (by exact nmr) _)
  have HDd := Lib.hid (show Du W (W.heap.size + 1) q4 Wd from by rw [← hV]; exact HD4.out.far (p := ⟨mb, 2, none⟩) (by exact nmc) (by show W.heap.size ≤ mb; omega) _)
  go_upto_region 50 with (fail)
  try rw [hV]
  clear hV fz yz HM4 HR4 HD4 y4
  have yd : Wd.cell? ⟨(W.heap.size + 1), 2, none⟩ = some (.int .i64 q4.ce) := (blk_cell HDd.out.1.1 2).trans rfl
  by_cases hc : q4.ce = 0
  · as_aux_lemma =>
    have HRES := Lib.hid (show _ = _ from (if_pos hc).symm.trans HRES.out)
    rw [hc] at yd
    have yd1 : Wd.drew.cell? ⟨(W.heap.size + 1), 1, none⟩ = some (.int .i64 q4.at_) := (blk_cell HDd.out.1.1 1).trans rfl
    have yd2 : X.rowAt Wd.drew mb 30 19 = true := X.rowAt_of (blk_drew HMd.out) rfl
    have yd3 : X.cellsAt Wd.drew mb = #[.int .i64 3, .bool (f != 0), .int .i64 x, .int .i64 0, .int .i64 0, .int .i64 0, .int .i64 0, .int .i64 0, .int .i64 0, .bool false, .bool false, .int .i64 0, .int .i64 0, .int .i64 0, .int .i64 0, .int .i64 0, .int .i64 0, .slice none 0 0, .string ⟨#[]⟩] := X.cellsAt_of (blk_drew HMd.out)
    have hst : X.rowAt Wd.drew W.heap.size 30 19 = true := X.rowAt_of (blk_drew HRd.out) rfl
    have kp := kp52 (blk_drew HDd.out.1.1) (blk_drew HMd.out) rfl (Ne.symm nrc) (Ne.symm nmr) #[.int .i64 3, .bool (f != 0), .int .i64 x, .int .i64 0, .int .i64 0, .int .i64 0, .int .i64 0, .int .i64 0, .int .i64 0, .bool false, .bool false, .int .i64 0, .int .i64 0, .int .i64 0, .int .i64 0, .int .i64 0, .int .i64 0, .slice none 0 0, .string ⟨#[]⟩]
    go_upto_region 52 with (fail)
    go_cut [3, 4] (fun s3 s4 wx => s3 = .int .i64 (q4.at_) ∧ s4 = .int .i64 (0) ∧ Hid (wx.heap[W.heap.size]? = some (.cells #[.int .i64 3, .bool (f != 0), .int .i64 x, .int .i64 0, .int .i64 0, .int .i64 0, .int .i64 0, .int .i64 0, .int .i64 0, .bool false, .bool false, .int .i64 0, .int .i64 0, .int .i64 0, .int .i64 0, .int .i64 0, .int .i64 0, .slice none 0 0, .string ⟨#[]⟩] 30 (0, 0))) ∧ Hid (Below W.heap.size W wx))
    case first =>
      go_region_held3 (fun w' => w'.cell? ⟨(W.heap.size + 1), 1, none⟩ = some (.int .i64 q4.at_) ∧ X.rowAt w' mb 30 19 = true ∧ X.cellsAt w' mb = #[.int .i64 3, .bool (f != 0), .int .i64 x, .int .i64 0, .int .i64 0, .int .i64 0, .int .i64 0, .int .i64 0, .int .i64 0, .bool false, .bool false, .int .i64 0, .int .i64 0, .int .i64 0, .int .i64 0, .int .i64 0, .int .i64 0, .slice none 0 0, .string ⟨#[]⟩]) (first | go_keep | exact kp) (fail)
      all_goals
        go_wp2_with fail
        go_meet
        exact ⟨rfl, rfl, Lib.hid (by first | exact setRow_heap _ _ _ _ _ _ (blk_drew HRd.out) | exact setRow_heap _ _ _ _ _ _ HRd.out), Lib.hid (by first | exact X.below_row (Below.drew HDd.out.low) (Nat.le_refl _) _ | exact X.below_row HDd.out.low (Nat.le_refl _) _)⟩
    case rest =>
      obtain ⟨rfl, rfl, HYz, HBz⟩ := hcut
      clear hst kp yd1 yd2 yd3
      go_wp2_with fail
      have hres := HRES.out
      simp only [Prod.mk.injEq] at hres
      obtain ⟨rfl, rfl, rfl, rfl, rfl, rfl, rfl, rfl, rfl, rfl, rfl, rfl, rfl, rfl, rfl, rfl, rfl, rfl, rfl, rfl, rfl⟩ := hres
      refine bodyPost_ret (results_ctt rfl _ _ W.heap.size 30 #[.int .i64 3, .bool (f != 0), .int .i64 x, .int .i64 0, .int .i64 0, .int .i64 0, .int .i64 0, .int .i64 0, .int .i64 0, .bool false, .bool false, .int .i64 0, .int .i64 0, .int .i64 0, .int .i64 0, .int .i64 0, .int .i64 0, .slice none 0 0, .string ⟨#[]⟩] (0, 0) _ rfl (by with_reducible exact HYz.out) Try.underlying30 rfl (by kernel_rfl)) rfl ?_
      exact ⟨_, rfl, Kd.R_of_own (enc := Value.int .i64) (World.ownsRow_nil _ _ _ _) (fun _ _ => trivial), HBz.out⟩
  · as_aux_lemma =>
    have HRES := Lib.hid (show _ = _ from (if_neg hc).symm.trans HRES.out)
    have d9 : (q4.ce != 0) = true := by simpa using hc
    clear hc
    have yd : Wd.drew.cell? ⟨(W.heap.size + 1), 2, none⟩ = some (.int .i64 q4.ce) := yd
    have hst : X.rowAt Wd.drew W.heap.size 30 19 = true := X.rowAt_of (blk_drew HRd.out) rfl
    have kp := kp51 (blk_drew HDd.out.1.1) (Ne.symm nrc) #[.int .i64 0, .bool false, .int .i64 0, .int .i64 0, .int .i64 0, .int .i64 0, .int .i64 0, .int .i64 0, .int .i64 0, .bool false, .bool false, .int .i64 0, .int .i64 0, .int .i64 0, .int .i64 0, .int .i64 0, .int .i64 0, .slice none 0 0, .string ⟨#[]⟩]
    have hst2 : X.rowAt Wd W.heap.size 30 19 = true := X.rowAt_of HRd.out rfl
    have kp2 := kp51 HDd.out.1.1 (Ne.symm nrc) #[.int .i64 0, .bool false, .int .i64 0, .int .i64 0, .int .i64 0, .int .i64 0, .int .i64 0, .int .i64 0, .int .i64 0, .bool false, .bool false, .int .i64 0, .int .i64 0, .int .i64 0, .int .i64 0, .int .i64 0, .int .i64 0, .slice none 0 0, .string ⟨#[]⟩]
    go_upto_region 51 with (fail)
    go_cut [3, 4] (fun s3 s4 wx => s3 = .int .i64 (0) ∧ s4 = .int .i64 (q4.ce) ∧ Hid (wx.heap[W.heap.size]? = some (.cells #[.int .i64 0, .bool false, .int .i64 0, .int .i64 0, .int .i64 0, .int .i64 0, .int .i64 0, .int .i64 0, .int .i64 0, .bool false, .bool false, .int .i64 0, .int .i64 0, .int .i64 0, .int .i64 0, .int .i64 0, .int .i64 0, .slice none 0 0, .string ⟨#[]⟩] 30 (0, 0))) ∧ Hid (Below W.heap.size W wx))
    case first =>
      go_region_held3 (fun w' => w'.cell? ⟨(W.heap.size + 1), 2, none⟩ = some (.int .i64 q4.ce)) (first | go_keep | exact kp | exact kp2) (fail)
      all_goals
        go_wp2_with fail
        go_meet
        exact ⟨rfl, rfl, Lib.hid (by first | exact setRow_heap _ _ _ _ _ _ (blk_drew HRd.out) | exact setRow_heap _ _ _ _ _ _ HRd.out), Lib.hid (by first | exact X.below_row (Below.drew HDd.out.low) (Nat.le_refl _) _ | exact X.below_row HDd.out.low (Nat.le_refl _) _)⟩
    case rest =>
      obtain ⟨rfl, rfl, HYz, HBz⟩ := hcut
      clear hst kp kp2 hst2 yd
      go_wp2_with fail
      have hres := HRES.out
      simp only [Prod.mk.injEq] at hres
      obtain ⟨rfl, rfl, rfl, rfl, rfl, rfl, rfl, rfl, rfl, rfl, rfl, rfl, rfl, rfl, rfl, rfl, rfl, rfl, rfl, rfl, rfl⟩ := hres
      refine bodyPost_ret (results_ctt rfl _ _ W.heap.size 30 #[.int .i64 0, .bool false, .int .i64 0, .int .i64 0, .int .i64 0, .int .i64 0, .int .i64 0, .int .i64 0, .int .i64 0, .bool false, .bool false, .int .i64 0, .int .i64 0, .int .i64 0, .int .i64 0, .int .i64 0, .int .i64 0, .slice none 0 0, .string ⟨#[]⟩] (0, 0) _ rfl (by with_reducible exact HYz.out) Try.underlying30 rfl (by kernel_rfl)) rfl ?_
      exact ⟨_, rfl, Kd.R_of_own (enc := Value.int .i64) (World.ownsRow_nil _ _ _ _) (fun _ _ => trivial), HBz.out⟩
set_option maxHeartbeats 8000000 in
set_option maxRecDepth 100000 in
theorem dp_5 (s : ByteArray) (W : World) (o0 : Ok ⟨s, 0, 0⟩) (k : Int) (q1 : CS) (e0 : intC ⟨s, 0, 0⟩ 1 = some (k, q1)) (o1 : Ok q1) (f : Int) (q2 : CS) (e1 : intC q1 1 = some (f, q2)) (o2 : Ok q2) (x : Int) (q3 : CS) (e2 : intC q2 2 = some (x, q3)) (o3 : Ok q3) (y : Int) (q4 : CS) (e3 : intC q3 2 = some (y, q4)) (o4 : Ok q4) (hc0 : q1.ce = 0) (hk : k = 5)  (r0 : Int) (r1 : Bool) (r2 : Int) (r3 : Int) (r4 : Int) (r5 : Int) (r6 : Int) (r7 : Int) (r8 : Int) (r9 : Bool) (r10 : Bool) (r11 : Int) (r12 : Int) (r13 : Int) (r14 : Int) (r15 : Int) (r16 : Int) (r17 : List Int) (r18 : ByteArray) (n e : Int) (hres : (if q4.ce = 0 then (4, false, f, x, y, 0, 0, 0, 0, false, false, 0, 0, 0, 0, 0, 0, [], ⟨#[]⟩, q4.at_, 0) else (0, false, 0, 0, 0, 0, 0, 0, 0, false, false, 0, 0, 0, 0, 0, 0, [], ⟨#[]⟩, 0, q4.ce)) = (r0, r1, r2, r3, r4, r5, r6, r7, r8, r9, r10, r11, r12, r13, r14, r15, r16, r17, r18, n, e)) :
    Calls Try.prog 9 #[.string s] W fun en w' => ∃ v0_ : Value, en = .returned (.tuple #[.agg #[.int .i64 r0, .bool r1, .int .i64 r2, .int .i64 r3, .int .i64 r4, .int .i64 r5, .int .i64 r6, .int .i64 r7, .int .i64 r8, .bool r9, .bool r10, .int .i64 r11, .int .i64 r12, .int .i64 r13, .int .i64 r14, .int .i64 r15, .int .i64 r16, v0_, .string r18], .int .i64 n, .int .i64 e]) ∧ Kd.R (Kd.int .i64) 3 w' W.heap.size (fun _ => True) v0_ r17 ∧ Below W.heap.size W w' := by
  have E0 := Lib.hid e0
  have E1 := Lib.hid e1
  have E2 := Lib.hid e2
  have E3 := Lib.hid e3
  have O0 := Lib.hid o0
  have O1 := Lib.hid o1
  have O2 := Lib.hid o2
  have O3 := Lib.hid o3
  have O4 := Lib.hid o4
  have HRES := Lib.hid hres
  clear hres e0 e1 e2 e3 o0 o1 o2 o3 o4
  obtain ⟨Wa, hWa⟩ : ∃ X, (W.alloc (.cells #[.int .i64 0, .bool false, .int .i64 0, .int .i64 0, .int .i64 0, .int .i64 0, .int .i64 0, .int .i64 0, .int .i64 0, .bool false, .bool false, .int .i64 0, .int .i64 0, .int .i64 0, .int .i64 0, .int .i64 0, .int .i64 0, .slice none 0 0, .string ⟨#[]⟩] 30)).alloc (.cells #[.string s, .int .i64 0, .int .i64 0] 58) = X := ⟨_, rfl⟩
  have HRa := Lib.hid (show Wa.heap[W.heap.size]? = some (.cells #[.int .i64 0, .bool false, .int .i64 0, .int .i64 0, .int .i64 0, .int .i64 0, .int .i64 0, .int .i64 0, .int .i64 0, .bool false, .bool false, .int .i64 0, .int .i64 0, .int .i64 0, .int .i64 0, .int .i64 0, .int .i64 0, .slice none 0 0, .string ⟨#[]⟩] 30 (0, 0)) from by rw [← hWa]; exact (Below.heap_alloc _ _ _ (by simp)).trans (heap_alloc_new W _))
  have HDa := Lib.hid (show Du W (W.heap.size + 1) ⟨s, 0, 0⟩ Wa from by rw [← hWa]; exact ⟨⟨by have h0 := heap_alloc_new (W.alloc (.cells #[.int .i64 0, .bool false, .int .i64 0, .int .i64 0, .int .i64 0, .int .i64 0, .int .i64 0, .int .i64 0, .int .i64 0, .bool false, .bool false, .int .i64 0, .int .i64 0, .int .i64 0, .int .i64 0, .int .i64 0, .int .i64 0, .slice none 0 0, .string ⟨#[]⟩] 30)) (.cells #[.string s, .int .i64 0, .int .i64 0] 58); rwa [World.size_alloc] at h0, Nat.le_succ _⟩, below_alloc (below_alloc (Below.refl _ _) _) _⟩)
  have nrc : W.heap.size ≠ (W.heap.size + 1) := by omega
  go_enter Try.func9, Try.ntmps9
  go_upto_region 2 with (fail)
  try rw [hWa]
  clear hWa
  go_wp2_with fail
  refine (rint_k W (W.heap.size + 1) ⟨s, 0, 0⟩ 1 k q1 Wa HDa.out O0.out (by first | exact .inl rfl | exact .inr (.inl rfl) | exact .inr (.inr rfl)) E0.out).mono ?_
  rintro en W1 ⟨rfl, h1, hk⟩
  have HD1 := Lib.hid h1
  have HR1 := Lib.hid (hk.blk HRa.out nrc)
  clear h1 hk
  have y1 : W1.cell? ⟨(W.heap.size + 1), 2, none⟩ = some (.int .i64 q1.ce) := (blk_cell HD1.out.1.1 2).trans rfl
  subst hk
  rw [hc0] at y1
  clear hc0
  obtain ⟨Wm, hWm⟩ : ∃ X, W1.alloc (.cells #[.int .i64 0, .bool false, .int .i64 0, .int .i64 0, .int .i64 0, .int .i64 0, .int .i64 0, .int .i64 0, .int .i64 0, .bool false, .bool false, .int .i64 0, .int .i64 0, .int .i64 0, .int .i64 0, .int .i64 0, .int .i64 0, .slice none 0 0, .string ⟨#[]⟩] 30) = X := ⟨_, rfl⟩
  have hbm := below_alloc (Below.refl W1.heap.size W1) (.cells #[.int .i64 0, .bool false, .int .i64 0, .int .i64 0, .int .i64 0, .int .i64 0, .int .i64 0, .int .i64 0, .int .i64 0, .bool false, .bool false, .int .i64 0, .int .i64 0, .int .i64 0, .int .i64 0, .int .i64 0, .int .i64 0, .slice none 0 0, .string ⟨#[]⟩] 30)
  rw [hWm] at hbm
  have HDm := Lib.hid (HD1.out.below hbm)
  have HRm := Lib.hid (blk_below HR1.out hbm)
  have HMm := Lib.hid (show Wm.heap[W1.heap.size]? = some (.cells #[.int .i64 0, .bool false, .int .i64 0, .int .i64 0, .int .i64 0, .int .i64 0, .int .i64 0, .int .i64 0, .int .i64 0, .bool false, .bool false, .int .i64 0, .int .i64 0, .int .i64 0, .int .i64 0, .int .i64 0, .int .i64 0, .slice none 0 0, .string ⟨#[]⟩] 30 (0, 0)) from by rw [← hWm]; exact heap_alloc_new W1 _)
  have hc9 := HD1.out.lt
  have nmc : W1.heap.size ≠ (W.heap.size + 1) := by omega
  have nmr : W.heap.size ≠ W1.heap.size := by omega
  have hmg : W.heap.size + 1 < W1.heap.size := by omega
  go_upto_region 6 with (fail)
  try rw [hWm]
  clear hWm hbm hc9 y1 HD1 HR1
  obtain ⟨mb, hmb⟩ : ∃ x, W1.heap.size = x := ⟨_, rfl⟩
  rw [hmb] at HMm nmc nmr hmg ⊢
  clear hmb
  have fz : Wm.frozen? ⟨mb, 0, none⟩ = false := blk_frozen HMm.out _
  have yz : Wm.cell? ⟨mb, 0, none⟩ = some (.int .i64 0) := (blk_cell HMm.out 0).trans rfl
  obtain ⟨Wb, hV⟩ : ∃ X, Wm.setCell ⟨mb, 0, none⟩ (.int .i64 4) = X := ⟨_, rfl⟩
  have HMb := Lib.hid (show Wb.heap[mb]? = some (.cells #[.int .i64 4, .bool false, .int .i64 0, .int .i64 0, .int .i64 0, .int .i64 0, .int .i64 0, .int .i64 0, .int .i64 0, .bool false, .bool false, .int .i64 0, .int .i64 0, .int .i64 0, .int .i64 0, .int .i64 0, .int .i64 0, .slice none 0 0, .string ⟨#[]⟩] 30 (0, 0)) from by rw [← hV]; exact blk_put HMm.out 0 _ rfl)
  have HRb := Lib.hid (show Wb.heap[W.heap.size]? = some (.cells #[.int .i64 0, .bool false, .int .i64 0, .int .i64 0, .int .i64 0, .int .i64 0, .int .i64 0, .int .i64 0, .int .i64 0, .bool false, .bool false, .int .i64 0, .int .i64 0, .int .i64 0, .int .i64 0, .int .i64 0, .int .i64 0, .slice none 0 0, .string ⟨#[]⟩] 30 (0, 0)) from by rw [← hV]; exact blk_far HRm.out (by exact nmr) _)
  have HDb := Lib.hid (show Du W (W.heap.size + 1) q1 Wb from by rw [← hV]; exact HDm.out.far (p := ⟨mb, 0, none⟩) (by exact nmc) (by show W.heap.size ≤ mb; omega) _)
  go_upto_region 40 with (fail)
  try rw [hV]
  clear hV fz yz HMm HRm HDm
  go_wp2_with fail
  refine (rint_k W (W.heap.size + 1) q1 1 f q2 Wb HDb.out O1.out (by first | exact .inl rfl | exact .inr (.inl rfl) | exact .inr (.inr rfl)) E1.out).mono ?_
  rintro en W2 ⟨rfl, h1, hk⟩
  have HD2 := Lib.hid h1
  have HR2 := Lib.hid (hk.blk HRb.out nrc)
  have HM2 := Lib.hid (hk.blk HMb.out nmc)
  clear h1 hk
  have y2 : W2.cell? ⟨(W.heap.size + 1), 2, none⟩ = some (.int .i64 q2.ce) := (blk_cell HD2.out.1.1 2).trans rfl
  have fz : W2.frozen? ⟨mb, 2, none⟩ = false := blk_frozen HM2.out _
  have yz : W2.cell? ⟨mb, 2, none⟩ = some (.int .i64 0) := (blk_cell HM2.out 2).trans rfl
  obtain ⟨Wc, hV⟩ : ∃ X, W2.setCell ⟨mb, 2, none⟩ (.int .i64 f) = X := ⟨_, rfl⟩
  have HMc := Lib.hid (show Wc.heap[mb]? = some (.cells #[.int .i64 4, .bool false, .int .i64 f, .int .i64 0, .int .i64 0, .int .i64 0, .int .i64 0, .int .i64 0, .int .i64 0, .bool false, .bool false, .int .i64 0, .int .i64 0, .int .i64 0, .int .i64 0, .int .i64 0, .int .i64 0, .slice none 0 0, .string ⟨#[]⟩] 30 (0, 0)) from by rw [← hV]; exact blk_put HM2.out 2 _ rfl)
  have HRc := Lib.hid (show Wc.heap[W.heap.size]? = some (.cells #[.int .i64 0, .bool false, .int .i64 0, .int .i64 0, .int .i64 0, .int .i64 0, .int .i64 0, .int .i64 0, .int .i64 0, .bool false, .bool false, .int .i64 0, .int .i64 0, .int .i64 0, .int .i64 0, .int .i64 0, .int .i64 0, .slice none 0 0, .string ⟨#[]⟩] 30 (0, 0)) from by rw [← hV]; exact blk_far HR2.out (by exact nmr) _)
  have HDc := Lib.hid (show Du W (W.heap.size + 1) q2 Wc from by rw [← hV]; exact HD2.out.far (p := ⟨mb, 2, none⟩) (by exact nmc) (by show W.heap.size ≤ mb; omega) _)
  go_upto_region 41 with (fail)
  try rw [hV]
  clear hV fz yz HM2 HR2 HD2 y2
  go_wp2_with fail
  refine (rint_k W (W.heap.size + 1) q2 2 x q3 Wc HDc.out O2.out (by first | exact .inl rfl | exact .inr (.inl rfl) | exact .inr (.inr rfl)) E2.out).mono ?_
  rintro en W3 ⟨rfl, h1, hk⟩
  have HD3 := Lib.hid h1
  have HR3 := Lib.hid (hk.blk HRc.out nrc)
  have HM3 := Lib.hid (hk.blk HMc.out nmc)
  clear h1 hk
  have y3 : W3.cell? ⟨(W.heap.size + 1), 2, none⟩ = some (.int .i64 q3.ce) := (blk_cell HD3.out.1.1 2).trans rfl
  have fz : W3.frozen? ⟨mb, 3, none⟩ = false := blk_frozen HM3.out _
  have yz : W3.cell? ⟨mb, 3, none⟩ = some (.int .i64 0) := (blk_cell HM3.out 3).trans rfl
  obtain ⟨Wd, hV⟩ : ∃ X, W3.setCell ⟨mb, 3, none⟩ (.int .i64 x) = X := ⟨_, rfl⟩
  have HMd := Lib.hid (show Wd.heap[mb]? = some (.cells #[.int .i64 4, .bool false, .int .i64 f, .int .i64 x, .int .i64 0, .int .i64 0, .int .i64 0, .int .i64 0, .int .i64 0, .bool false, .bool false, .int .i64 0, .int .i64 0, .int .i64 0, .int .i64 0, .int .i64 0, .int .i64 0, .slice none 0 0, .string ⟨#[]⟩] 30 (0, 0)) from by rw [← hV]; exact blk_put HM3.out 3 _ rfl)
  have HRd := Lib.hid (show Wd.heap[W.heap.size]? = some (.cells #[.int .i64 0, .bool false, .int .i64 0, .int .i64 0, .int .i64 0, .int .i64 0, .int .i64 0, .int .i64 0, .int .i64 0, .bool false, .bool false, .int .i64 0, .int .i64 0, .int .i64 0, .int .i64 0, .int .i64 0, .int .i64 0, .slice none 0 0, .string ⟨#[]⟩] 30 (0, 0)) from by rw [← hV]; exact blk_far HR3.out (by exact nmr) _)
  have HDd := Lib.hid (show Du W (W.heap.size + 1) q3 Wd from by rw [← hV]; exact HD3.out.far (p := ⟨mb, 3, none⟩) (by exact nmc) (by show W.heap.size ≤ mb; omega) _)
  go_upto_region 42 with (fail)
  try rw [hV]
  clear hV fz yz HM3 HR3 HD3 y3
  go_wp2_with fail
  refine (rint_k W (W.heap.size + 1) q3 2 y q4 Wd HDd.out O3.out (by first | exact .inl rfl | exact .inr (.inl rfl) | exact .inr (.inr rfl)) E3.out).mono ?_
  rintro en W4 ⟨rfl, h1, hk⟩
  have HD4 := Lib.hid h1
  have HR4 := Lib.hid (hk.blk HRd.out nrc)
  have HM4 := Lib.hid (hk.blk HMd.out nmc)
  clear h1 hk
  have y4 : W4.cell? ⟨(W.heap.size + 1), 2, none⟩ = some (.int .i64 q4.ce) := (blk_cell HD4.out.1.1 2).trans rfl
  have fz : W4.frozen? ⟨mb, 4, none⟩ = false := blk_frozen HM4.out _
  have yz : W4.cell? ⟨mb, 4, none⟩ = some (.int .i64 0) := (blk_cell HM4.out 4).trans rfl
  obtain ⟨We, hV⟩ : ∃ X, W4.setCell ⟨mb, 4, none⟩ (.int .i64 y) = X := ⟨_, rfl⟩
  have HMe := Lib.hid (show We.heap[mb]? = some (.cells #[.int .i64 4, .bool false, .int .i64 f, .int .i64 x, .int .i64 y, .int .i64 0, .int .i64 0, .int .i64 0, .int .i64 0, .bool false, .bool false, .int .i64 0, .int .i64 0, .int .i64 0, .int .i64 0, .int .i64 0, .int .i64 0, .slice none 0 0, .string ⟨#[]⟩] 30 (0, 0)) from by rw [← hV]; exact blk_put HM4.out 4 _ rfl)
  have HRe := Lib.hid (show We.heap[W.heap.size]? = some (.cells #[.int .i64 0, .bool false, .int .i64 0, .int .i64 0, .int .i64 0, .int .i64 0, .int .i64 0, .int .i64 0, .int .i64 0, .bool false, .bool false, .int .i64 0, .int .i64 0, .int .i64 0, .int .i64 0, .int .i64 0, .int .i64 0, .slice none 0 0, .string ⟨#[]⟩] 30 (0, 0)) from by rw [← hV]; exact blk_far HR4.out (by exact nmr) _)
  have HDe := Lib.hid (show Du W (W.heap.size + 1) q4 We from by rw [← hV]; exact HD4.out.far (p := ⟨mb, 4, none⟩) (by exact nmc) (by show W.heap.size ≤ mb; omega) _)
  go_upto_region 50 with (fail)
  try rw [hV]
  clear hV fz yz HM4 HR4 HD4 y4
  have ye : We.cell? ⟨(W.heap.size + 1), 2, none⟩ = some (.int .i64 q4.ce) := (blk_cell HDe.out.1.1 2).trans rfl
  by_cases hc : q4.ce = 0
  · as_aux_lemma =>
    have HRES := Lib.hid (show _ = _ from (if_pos hc).symm.trans HRES.out)
    rw [hc] at ye
    have yd1 : We.drew.cell? ⟨(W.heap.size + 1), 1, none⟩ = some (.int .i64 q4.at_) := (blk_cell HDe.out.1.1 1).trans rfl
    have yd2 : X.rowAt We.drew mb 30 19 = true := X.rowAt_of (blk_drew HMe.out) rfl
    have yd3 : X.cellsAt We.drew mb = #[.int .i64 4, .bool false, .int .i64 f, .int .i64 x, .int .i64 y, .int .i64 0, .int .i64 0, .int .i64 0, .int .i64 0, .bool false, .bool false, .int .i64 0, .int .i64 0, .int .i64 0, .int .i64 0, .int .i64 0, .int .i64 0, .slice none 0 0, .string ⟨#[]⟩] := X.cellsAt_of (blk_drew HMe.out)
    have hst : X.rowAt We.drew W.heap.size 30 19 = true := X.rowAt_of (blk_drew HRe.out) rfl
    have kp := kp52 (blk_drew HDe.out.1.1) (blk_drew HMe.out) rfl (Ne.symm nrc) (Ne.symm nmr) #[.int .i64 4, .bool false, .int .i64 f, .int .i64 x, .int .i64 y, .int .i64 0, .int .i64 0, .int .i64 0, .int .i64 0, .bool false, .bool false, .int .i64 0, .int .i64 0, .int .i64 0, .int .i64 0, .int .i64 0, .int .i64 0, .slice none 0 0, .string ⟨#[]⟩]
    go_upto_region 52 with (fail)
    go_cut [3, 4] (fun s3 s4 wx => s3 = .int .i64 (q4.at_) ∧ s4 = .int .i64 (0) ∧ Hid (wx.heap[W.heap.size]? = some (.cells #[.int .i64 4, .bool false, .int .i64 f, .int .i64 x, .int .i64 y, .int .i64 0, .int .i64 0, .int .i64 0, .int .i64 0, .bool false, .bool false, .int .i64 0, .int .i64 0, .int .i64 0, .int .i64 0, .int .i64 0, .int .i64 0, .slice none 0 0, .string ⟨#[]⟩] 30 (0, 0))) ∧ Hid (Below W.heap.size W wx))
    case first =>
      go_region_held3 (fun w' => w'.cell? ⟨(W.heap.size + 1), 1, none⟩ = some (.int .i64 q4.at_) ∧ X.rowAt w' mb 30 19 = true ∧ X.cellsAt w' mb = #[.int .i64 4, .bool false, .int .i64 f, .int .i64 x, .int .i64 y, .int .i64 0, .int .i64 0, .int .i64 0, .int .i64 0, .bool false, .bool false, .int .i64 0, .int .i64 0, .int .i64 0, .int .i64 0, .int .i64 0, .int .i64 0, .slice none 0 0, .string ⟨#[]⟩]) (first | go_keep | exact kp) (fail)
      all_goals
        go_wp2_with fail
        go_meet
        exact ⟨rfl, rfl, Lib.hid (by first | exact setRow_heap _ _ _ _ _ _ (blk_drew HRe.out) | exact setRow_heap _ _ _ _ _ _ HRe.out), Lib.hid (by first | exact X.below_row (Below.drew HDe.out.low) (Nat.le_refl _) _ | exact X.below_row HDe.out.low (Nat.le_refl _) _)⟩
    case rest =>
      obtain ⟨rfl, rfl, HYz, HBz⟩ := hcut
      clear hst kp yd1 yd2 yd3
      go_wp2_with fail
      have hres := HRES.out
      simp only [Prod.mk.injEq] at hres
      obtain ⟨rfl, rfl, rfl, rfl, rfl, rfl, rfl, rfl, rfl, rfl, rfl, rfl, rfl, rfl, rfl, rfl, rfl, rfl, rfl, rfl, rfl⟩ := hres
      refine bodyPost_ret (results_ctt rfl _ _ W.heap.size 30 #[.int .i64 4, .bool false, .int .i64 f, .int .i64 x, .int .i64 y, .int .i64 0, .int .i64 0, .int .i64 0, .int .i64 0, .bool false, .bool false, .int .i64 0, .int .i64 0, .int .i64 0, .int .i64 0, .int .i64 0, .int .i64 0, .slice none 0 0, .string ⟨#[]⟩] (0, 0) _ rfl (by with_reducible exact HYz.out) Try.underlying30 rfl (by kernel_rfl)) rfl ?_
      exact ⟨_, rfl, Kd.R_of_own (enc := Value.int .i64) (World.ownsRow_nil _ _ _ _) (fun _ _ => trivial), HBz.out⟩
  · as_aux_lemma =>
    have HRES := Lib.hid (show _ = _ from (if_neg hc).symm.trans HRES.out)
    have d9 : (q4.ce != 0) = true := by simpa using hc
    clear hc
    have yd : We.drew.cell? ⟨(W.heap.size + 1), 2, none⟩ = some (.int .i64 q4.ce) := ye
    have hst : X.rowAt We.drew W.heap.size 30 19 = true := X.rowAt_of (blk_drew HRe.out) rfl
    have kp := kp51 (blk_drew HDe.out.1.1) (Ne.symm nrc) #[.int .i64 0, .bool false, .int .i64 0, .int .i64 0, .int .i64 0, .int .i64 0, .int .i64 0, .int .i64 0, .int .i64 0, .bool false, .bool false, .int .i64 0, .int .i64 0, .int .i64 0, .int .i64 0, .int .i64 0, .int .i64 0, .slice none 0 0, .string ⟨#[]⟩]
    have hst2 : X.rowAt We W.heap.size 30 19 = true := X.rowAt_of HRe.out rfl
    have kp2 := kp51 HDe.out.1.1 (Ne.symm nrc) #[.int .i64 0, .bool false, .int .i64 0, .int .i64 0, .int .i64 0, .int .i64 0, .int .i64 0, .int .i64 0, .int .i64 0, .bool false, .bool false, .int .i64 0, .int .i64 0, .int .i64 0, .int .i64 0, .int .i64 0, .int .i64 0, .slice none 0 0, .string ⟨#[]⟩]
    go_upto_region 51 with (fail)
    go_cut [3, 4] (fun s3 s4 wx => s3 = .int .i64 (0) ∧ s4 = .int .i64 (q4.ce) ∧ Hid (wx.heap[W.heap.size]? = some (.cells #[.int .i64 0, .bool false, .int .i64 0, .int .i64 0, .int .i64 0, .int .i64 0, .int .i64 0, .int .i64 0, .int .i64 0, .bool false, .bool false, .int .i64 0, .int .i64 0, .int .i64 0, .int .i64 0, .int .i64 0, .int .i64 0, .slice none 0 0, .string ⟨#[]⟩] 30 (0, 0))) ∧ Hid (Below W.heap.size W wx))
    case first =>
      go_region_held3 (fun w' => w'.cell? ⟨(W.heap.size + 1), 2, none⟩ = some (.int .i64 q4.ce)) (first | go_keep | exact kp | exact kp2) (fail)
      all_goals
        go_wp2_with fail
        go_meet
        exact ⟨rfl, rfl, Lib.hid (by first | exact setRow_heap _ _ _ _ _ _ (blk_drew HRe.out) | exact setRow_heap _ _ _ _ _ _ HRe.out), Lib.hid (by first | exact X.below_row (Below.drew HDe.out.low) (Nat.le_refl _) _ | exact X.below_row HDe.out.low (Nat.le_refl _) _)⟩
    case rest =>
      obtain ⟨rfl, rfl, HYz, HBz⟩ := hcut
      clear hst kp kp2 hst2 yd
      go_wp2_with fail
      have hres := HRES.out
      simp only [Prod.mk.injEq] at hres
      obtain ⟨rfl, rfl, rfl, rfl, rfl, rfl, rfl, rfl, rfl, rfl, rfl, rfl, rfl, rfl, rfl, rfl, rfl, rfl, rfl, rfl, rfl⟩ := hres
      refine bodyPost_ret (results_ctt rfl _ _ W.heap.size 30 #[.int .i64 0, .bool false, .int .i64 0, .int .i64 0, .int .i64 0, .int .i64 0, .int .i64 0, .int .i64 0, .int .i64 0, .bool false, .bool false, .int .i64 0, .int .i64 0, .int .i64 0, .int .i64 0, .int .i64 0, .int .i64 0, .slice none 0 0, .string ⟨#[]⟩] (0, 0) _ rfl (by with_reducible exact HYz.out) Try.underlying30 rfl (by kernel_rfl)) rfl ?_
      exact ⟨_, rfl, Kd.R_of_own (enc := Value.int .i64) (World.ownsRow_nil _ _ _ _) (fun _ _ => trivial), HBz.out⟩
set_option maxHeartbeats 8000000 in
set_option maxRecDepth 100000 in
theorem dp_6 (s : ByteArray) (W : World) (o0 : Ok ⟨s, 0, 0⟩) (k : Int) (q1 : CS) (e0 : intC ⟨s, 0, 0⟩ 1 = some (k, q1)) (o1 : Ok q1) (b : ByteArray) (q2 : CS) (e1 : bytesC q1 3 = some (b, q2)) (o2 : Ok q2) (x : Int) (q3 : CS) (e2 : intC q2 4 = some (x, q3)) (o3 : Ok q3) (t : ByteArray) (q4 : CS) (e3 : bytesC q3 x = some (t, q4)) (o4 : Ok q4) (hc0 : q1.ce = 0) (hk : k = 6) (hx : ¬ (x > 4096)) (r0 : Int) (r1 : Bool) (r2 : Int) (r3 : Int) (r4 : Int) (r5 : Int) (r6 : Int) (r7 : Int) (r8 : Int) (r9 : Bool) (r10 : Bool) (r11 : Int) (r12 : Int) (r13 : Int) (r14 : Int) (r15 : Int) (r16 : Int) (r17 : List Int) (r18 : ByteArray) (n e : Int) (hres : (if q4.ce = 0 then (5, false, 0, 0, 0, 0, 0, 0, 0, false, false, 0, 0, 0, 0, 0, 0, [], t, q4.at_, 0) else (0, false, 0, 0, 0, 0, 0, 0, 0, false, false, 0, 0, 0, 0, 0, 0, [], ⟨#[]⟩, 0, q4.ce)) = (r0, r1, r2, r3, r4, r5, r6, r7, r8, r9, r10, r11, r12, r13, r14, r15, r16, r17, r18, n, e)) :
    Calls Try.prog 9 #[.string s] W fun en w' => ∃ v0_ : Value, en = .returned (.tuple #[.agg #[.int .i64 r0, .bool r1, .int .i64 r2, .int .i64 r3, .int .i64 r4, .int .i64 r5, .int .i64 r6, .int .i64 r7, .int .i64 r8, .bool r9, .bool r10, .int .i64 r11, .int .i64 r12, .int .i64 r13, .int .i64 r14, .int .i64 r15, .int .i64 r16, v0_, .string r18], .int .i64 n, .int .i64 e]) ∧ Kd.R (Kd.int .i64) 3 w' W.heap.size (fun _ => True) v0_ r17 ∧ Below W.heap.size W w' := by
  have E0 := Lib.hid e0
  have E1 := Lib.hid e1
  have E2 := Lib.hid e2
  have E3 := Lib.hid e3
  have O0 := Lib.hid o0
  have O1 := Lib.hid o1
  have O2 := Lib.hid o2
  have O3 := Lib.hid o3
  have O4 := Lib.hid o4
  have HRES := Lib.hid hres
  clear hres e0 e1 e2 e3 o0 o1 o2 o3 o4
  obtain ⟨Wa, hWa⟩ : ∃ X, (W.alloc (.cells #[.int .i64 0, .bool false, .int .i64 0, .int .i64 0, .int .i64 0, .int .i64 0, .int .i64 0, .int .i64 0, .int .i64 0, .bool false, .bool false, .int .i64 0, .int .i64 0, .int .i64 0, .int .i64 0, .int .i64 0, .int .i64 0, .slice none 0 0, .string ⟨#[]⟩] 30)).alloc (.cells #[.string s, .int .i64 0, .int .i64 0] 58) = X := ⟨_, rfl⟩
  have HRa := Lib.hid (show Wa.heap[W.heap.size]? = some (.cells #[.int .i64 0, .bool false, .int .i64 0, .int .i64 0, .int .i64 0, .int .i64 0, .int .i64 0, .int .i64 0, .int .i64 0, .bool false, .bool false, .int .i64 0, .int .i64 0, .int .i64 0, .int .i64 0, .int .i64 0, .int .i64 0, .slice none 0 0, .string ⟨#[]⟩] 30 (0, 0)) from by rw [← hWa]; exact (Below.heap_alloc _ _ _ (by simp)).trans (heap_alloc_new W _))
  have HDa := Lib.hid (show Du W (W.heap.size + 1) ⟨s, 0, 0⟩ Wa from by rw [← hWa]; exact ⟨⟨by have h0 := heap_alloc_new (W.alloc (.cells #[.int .i64 0, .bool false, .int .i64 0, .int .i64 0, .int .i64 0, .int .i64 0, .int .i64 0, .int .i64 0, .int .i64 0, .bool false, .bool false, .int .i64 0, .int .i64 0, .int .i64 0, .int .i64 0, .int .i64 0, .int .i64 0, .slice none 0 0, .string ⟨#[]⟩] 30)) (.cells #[.string s, .int .i64 0, .int .i64 0] 58); rwa [World.size_alloc] at h0, Nat.le_succ _⟩, below_alloc (below_alloc (Below.refl _ _) _) _⟩)
  have nrc : W.heap.size ≠ (W.heap.size + 1) := by omega
  go_enter Try.func9, Try.ntmps9
  go_upto_region 2 with (fail)
  try rw [hWa]
  clear hWa
  go_wp2_with fail
  refine (rint_k W (W.heap.size + 1) ⟨s, 0, 0⟩ 1 k q1 Wa HDa.out O0.out (by first | exact .inl rfl | exact .inr (.inl rfl) | exact .inr (.inr rfl)) E0.out).mono ?_
  rintro en W1 ⟨rfl, h1, hk⟩
  have HD1 := Lib.hid h1
  have HR1 := Lib.hid (hk.blk HRa.out nrc)
  clear h1 hk
  have y1 : W1.cell? ⟨(W.heap.size + 1), 2, none⟩ = some (.int .i64 q1.ce) := (blk_cell HD1.out.1.1 2).trans rfl
  subst hk
  rw [hc0] at y1
  clear hc0
  obtain ⟨Wm, hWm⟩ : ∃ X, W1.alloc (.cells #[.int .i64 0, .bool false, .int .i64 0, .int .i64 0, .int .i64 0, .int .i64 0, .int .i64 0, .int .i64 0, .int .i64 0, .bool false, .bool false, .int .i64 0, .int .i64 0, .int .i64 0, .int .i64 0, .int .i64 0, .int .i64 0, .slice none 0 0, .string ⟨#[]⟩] 30) = X := ⟨_, rfl⟩
  have hbm := below_alloc (Below.refl W1.heap.size W1) (.cells #[.int .i64 0, .bool false, .int .i64 0, .int .i64 0, .int .i64 0, .int .i64 0, .int .i64 0, .int .i64 0, .int .i64 0, .bool false, .bool false, .int .i64 0, .int .i64 0, .int .i64 0, .int .i64 0, .int .i64 0, .int .i64 0, .slice none 0 0, .string ⟨#[]⟩] 30)
  rw [hWm] at hbm
  have HDm := Lib.hid (HD1.out.below hbm)
  have HRm := Lib.hid (blk_below HR1.out hbm)
  have HMm := Lib.hid (show Wm.heap[W1.heap.size]? = some (.cells #[.int .i64 0, .bool false, .int .i64 0, .int .i64 0, .int .i64 0, .int .i64 0, .int .i64 0, .int .i64 0, .int .i64 0, .bool false, .bool false, .int .i64 0, .int .i64 0, .int .i64 0, .int .i64 0, .int .i64 0, .int .i64 0, .slice none 0 0, .string ⟨#[]⟩] 30 (0, 0)) from by rw [← hWm]; exact heap_alloc_new W1 _)
  have hc9 := HD1.out.lt
  have nmc : W1.heap.size ≠ (W.heap.size + 1) := by omega
  have nmr : W.heap.size ≠ W1.heap.size := by omega
  have hmg : W.heap.size + 1 < W1.heap.size := by omega
  go_upto_region 6 with (fail)
  try rw [hWm]
  clear hWm hbm hc9 y1 HD1 HR1
  obtain ⟨mb, hmb⟩ : ∃ x, W1.heap.size = x := ⟨_, rfl⟩
  rw [hmb] at HMm nmc nmr hmg ⊢
  clear hmb
  go_wp2_with fail
  refine (rbytes_k W (W.heap.size + 1) q1 3 b q2 Wm HDm.out O1.out  E1.out).mono ?_
  rintro en W2 ⟨rfl, h1, hk⟩
  have HD2 := Lib.hid h1
  have HR2 := Lib.hid (hk.blk HRm.out nrc)
  have HM2 := Lib.hid (hk.blk HMm.out nmc)
  clear h1 hk
  have y2 : W2.cell? ⟨(W.heap.size + 1), 2, none⟩ = some (.int .i64 q2.ce) := (blk_cell HD2.out.1.1 2).trans rfl
  go_wp2_with fail
  refine (rint_k W (W.heap.size + 1) q2 4 x q3 W2 HD2.out O2.out (by first | exact .inl rfl | exact .inr (.inl rfl) | exact .inr (.inr rfl)) E2.out).mono ?_
  rintro en W3 ⟨rfl, h1, hk⟩
  have HD3 := Lib.hid h1
  have HR3 := Lib.hid (hk.blk HR2.out nrc)
  have HM3 := Lib.hid (hk.blk HM2.out nmc)
  clear h1 hk
  have y3 : W3.cell? ⟨(W.heap.size + 1), 2, none⟩ = some (.int .i64 q3.ce) := (blk_cell HD3.out.1.1 2).trans rfl
  clear y2
  have dx : decide (x > 4096) = false := decide_eq_false (by omega)
  have dx2 : decide (4096 < x) = false := decide_eq_false (by omega)
  clear hx
  have fz : W3.frozen? ⟨mb, 0, none⟩ = false := blk_frozen HM3.out _
  have yz : W3.cell? ⟨mb, 0, none⟩ = some (.int .i64 0) := (blk_cell HM3.out 0).trans rfl
  obtain ⟨Wc, hV⟩ : ∃ X, W3.setCell ⟨mb, 0, none⟩ (.int .i64 5) = X := ⟨_, rfl⟩
  have HMc := Lib.hid (show Wc.heap[mb]? = some (.cells #[.int .i64 5, .bool false, .int .i64 0, .int .i64 0, .int .i64 0, .int .i64 0, .int .i64 0, .int .i64 0, .int .i64 0, .bool false, .bool false, .int .i64 0, .int .i64 0, .int .i64 0, .int .i64 0, .int .i64 0, .int .i64 0, .slice none 0 0, .string ⟨#[]⟩] 30 (0, 0)) from by rw [← hV]; exact blk_put HM3.out 0 _ rfl)
  have HRc := Lib.hid (show Wc.heap[W.heap.size]? = some (.cells #[.int .i64 0, .bool false, .int .i64 0, .int .i64 0, .int .i64 0, .int .i64 0, .int .i64 0, .int .i64 0, .int .i64 0, .bool false, .bool false, .int .i64 0, .int .i64 0, .int .i64 0, .int .i64 0, .int .i64 0, .int .i64 0, .slice none 0 0, .string ⟨#[]⟩] 30 (0, 0)) from by rw [← hV]; exact blk_far HR3.out (by exact nmr) _)
  have HDc := Lib.hid (show Du W (W.heap.size + 1) q3 Wc from by rw [← hV]; exact HD3.out.far (p := ⟨mb, 0, none⟩) (by exact nmc) (by show W.heap.size ≤ mb; omega) _)
  go_upto_region 49 with (fail)
  try rw [hV]
  clear hV fz yz HM3 HR3 HD3 y3
  go_wp2_with fail
  refine (rbytes_k W (W.heap.size + 1) q3 x t q4 Wc HDc.out O3.out  E3.out).mono ?_
  rintro en W4 ⟨rfl, h1, hk⟩
  have HD4 := Lib.hid h1
  have HR4 := Lib.hid (hk.blk HRc.out nrc)
  have HM4 := Lib.hid (hk.blk HMc.out nmc)
  clear h1 hk
  have y4 : W4.cell? ⟨(W.heap.size + 1), 2, none⟩ = some (.int .i64 q4.ce) := (blk_cell HD4.out.1.1 2).trans rfl
  have fz : W4.frozen? ⟨mb, 18, none⟩ = false := blk_frozen HM4.out _
  have yz : W4.cell? ⟨mb, 18, none⟩ = some (.string ⟨#[]⟩) := (blk_cell HM4.out 18).trans rfl
  obtain ⟨Wd, hV⟩ : ∃ X, W4.setCell ⟨mb, 18, none⟩ (.string t) = X := ⟨_, rfl⟩
  have HMd := Lib.hid (show Wd.heap[mb]? = some (.cells #[.int .i64 5, .bool false, .int .i64 0, .int .i64 0, .int .i64 0, .int .i64 0, .int .i64 0, .int .i64 0, .int .i64 0, .bool false, .bool false, .int .i64 0, .int .i64 0, .int .i64 0, .int .i64 0, .int .i64 0, .int .i64 0, .slice none 0 0, .string t] 30 (0, 0)) from by rw [← hV]; exact blk_put HM4.out 18 _ rfl)
  have HRd := Lib.hid (show Wd.heap[W.heap.size]? = some (.cells #[.int .i64 0, .bool false, .int .i64 0, .int .i64 0, .int .i64 0, .int .i64 0, .int .i64 0, .int .i64 0, .int .i64 0, .bool false, .bool false, .int .i64 0, .int .i64 0, .int .i64 0, .int .i64 0, .int .i64 0, .int .i64 0, .slice none 0 0, .string ⟨#[]⟩] 30 (0, 0)) from by rw [← hV]; exact blk_far HR4.out (by exact nmr) _)
  have HDd := Lib.hid (show Du W (W.heap.size + 1) q4 Wd from by rw [← hV]; exact HD4.out.far (p := ⟨mb, 18, none⟩) (by exact nmc) (by show W.heap.size ≤ mb; omega) _)
  go_upto_region 50 with (fail)
  try rw [hV]
  clear hV fz yz HM4 HR4 HD4 y4
  have yd : Wd.cell? ⟨(W.heap.size + 1), 2, none⟩ = some (.int .i64 q4.ce) := (blk_cell HDd.out.1.1 2).trans rfl
  by_cases hc : q4.ce = 0
  · as_aux_lemma =>
    have HRES := Lib.hid (show _ = _ from (if_pos hc).symm.trans HRES.out)
    rw [hc] at yd
    have yd1 : Wd.drew.cell? ⟨(W.heap.size + 1), 1, none⟩ = some (.int .i64 q4.at_) := (blk_cell HDd.out.1.1 1).trans rfl
    have yd2 : X.rowAt Wd.drew mb 30 19 = true := X.rowAt_of (blk_drew HMd.out) rfl
    have yd3 : X.cellsAt Wd.drew mb = #[.int .i64 5, .bool false, .int .i64 0, .int .i64 0, .int .i64 0, .int .i64 0, .int .i64 0, .int .i64 0, .int .i64 0, .bool false, .bool false, .int .i64 0, .int .i64 0, .int .i64 0, .int .i64 0, .int .i64 0, .int .i64 0, .slice none 0 0, .string t] := X.cellsAt_of (blk_drew HMd.out)
    have hst : X.rowAt Wd.drew W.heap.size 30 19 = true := X.rowAt_of (blk_drew HRd.out) rfl
    have kp := kp52 (blk_drew HDd.out.1.1) (blk_drew HMd.out) rfl (Ne.symm nrc) (Ne.symm nmr) #[.int .i64 5, .bool false, .int .i64 0, .int .i64 0, .int .i64 0, .int .i64 0, .int .i64 0, .int .i64 0, .int .i64 0, .bool false, .bool false, .int .i64 0, .int .i64 0, .int .i64 0, .int .i64 0, .int .i64 0, .int .i64 0, .slice none 0 0, .string t]
    go_upto_region 52 with (fail)
    go_cut [3, 4] (fun s3 s4 wx => s3 = .int .i64 (q4.at_) ∧ s4 = .int .i64 (0) ∧ Hid (wx.heap[W.heap.size]? = some (.cells #[.int .i64 5, .bool false, .int .i64 0, .int .i64 0, .int .i64 0, .int .i64 0, .int .i64 0, .int .i64 0, .int .i64 0, .bool false, .bool false, .int .i64 0, .int .i64 0, .int .i64 0, .int .i64 0, .int .i64 0, .int .i64 0, .slice none 0 0, .string t] 30 (0, 0))) ∧ Hid (Below W.heap.size W wx))
    case first =>
      go_region_held3 (fun w' => w'.cell? ⟨(W.heap.size + 1), 1, none⟩ = some (.int .i64 q4.at_) ∧ X.rowAt w' mb 30 19 = true ∧ X.cellsAt w' mb = #[.int .i64 5, .bool false, .int .i64 0, .int .i64 0, .int .i64 0, .int .i64 0, .int .i64 0, .int .i64 0, .int .i64 0, .bool false, .bool false, .int .i64 0, .int .i64 0, .int .i64 0, .int .i64 0, .int .i64 0, .int .i64 0, .slice none 0 0, .string t]) (first | go_keep | exact kp) (fail)
      all_goals
        go_wp2_with fail
        go_meet
        exact ⟨rfl, rfl, Lib.hid (by first | exact setRow_heap _ _ _ _ _ _ (blk_drew HRd.out) | exact setRow_heap _ _ _ _ _ _ HRd.out), Lib.hid (by first | exact X.below_row (Below.drew HDd.out.low) (Nat.le_refl _) _ | exact X.below_row HDd.out.low (Nat.le_refl _) _)⟩
    case rest =>
      obtain ⟨rfl, rfl, HYz, HBz⟩ := hcut
      clear hst kp yd1 yd2 yd3
      go_wp2_with fail
      have hres := HRES.out
      simp only [Prod.mk.injEq] at hres
      obtain ⟨rfl, rfl, rfl, rfl, rfl, rfl, rfl, rfl, rfl, rfl, rfl, rfl, rfl, rfl, rfl, rfl, rfl, rfl, rfl, rfl, rfl⟩ := hres
      refine bodyPost_ret (results_ctt rfl _ _ W.heap.size 30 #[.int .i64 5, .bool false, .int .i64 0, .int .i64 0, .int .i64 0, .int .i64 0, .int .i64 0, .int .i64 0, .int .i64 0, .bool false, .bool false, .int .i64 0, .int .i64 0, .int .i64 0, .int .i64 0, .int .i64 0, .int .i64 0, .slice none 0 0, .string t] (0, 0) _ rfl (by with_reducible exact HYz.out) Try.underlying30 rfl (by kernel_rfl)) rfl ?_
      exact ⟨_, rfl, Kd.R_of_own (enc := Value.int .i64) (World.ownsRow_nil _ _ _ _) (fun _ _ => trivial), HBz.out⟩
  · as_aux_lemma =>
    have HRES := Lib.hid (show _ = _ from (if_neg hc).symm.trans HRES.out)
    have d9 : (q4.ce != 0) = true := by simpa using hc
    clear hc
    have yd : Wd.drew.cell? ⟨(W.heap.size + 1), 2, none⟩ = some (.int .i64 q4.ce) := yd
    have hst : X.rowAt Wd.drew W.heap.size 30 19 = true := X.rowAt_of (blk_drew HRd.out) rfl
    have kp := kp51 (blk_drew HDd.out.1.1) (Ne.symm nrc) #[.int .i64 0, .bool false, .int .i64 0, .int .i64 0, .int .i64 0, .int .i64 0, .int .i64 0, .int .i64 0, .int .i64 0, .bool false, .bool false, .int .i64 0, .int .i64 0, .int .i64 0, .int .i64 0, .int .i64 0, .int .i64 0, .slice none 0 0, .string ⟨#[]⟩]
    have hst2 : X.rowAt Wd W.heap.size 30 19 = true := X.rowAt_of HRd.out rfl
    have kp2 := kp51 HDd.out.1.1 (Ne.symm nrc) #[.int .i64 0, .bool false, .int .i64 0, .int .i64 0, .int .i64 0, .int .i64 0, .int .i64 0, .int .i64 0, .int .i64 0, .bool false, .bool false, .int .i64 0, .int .i64 0, .int .i64 0, .int .i64 0, .int .i64 0, .int .i64 0, .slice none 0 0, .string ⟨#[]⟩]
    go_upto_region 51 with (fail)
    go_cut [3, 4] (fun s3 s4 wx => s3 = .int .i64 (0) ∧ s4 = .int .i64 (q4.ce) ∧ Hid (wx.heap[W.heap.size]? = some (.cells #[.int .i64 0, .bool false, .int .i64 0, .int .i64 0, .int .i64 0, .int .i64 0, .int .i64 0, .int .i64 0, .int .i64 0, .bool false, .bool false, .int .i64 0, .int .i64 0, .int .i64 0, .int .i64 0, .int .i64 0, .int .i64 0, .slice none 0 0, .string ⟨#[]⟩] 30 (0, 0))) ∧ Hid (Below W.heap.size W wx))
    case first =>
      go_region_held3 (fun w' => w'.cell? ⟨(W.heap.size + 1), 2, none⟩ = some (.int .i64 q4.ce)) (first | go_keep | exact kp | exact kp2) (fail)
      all_goals
        go_wp2_with fail
        go_meet
        exact ⟨rfl, rfl, Lib.hid (by first | exact setRow_heap _ _ _ _ _ _ (blk_drew HRd.out) | exact setRow_heap _ _ _ _ _ _ HRd.out), Lib.hid (by first | exact X.below_row (Below.drew HDd.out.low) (Nat.le_refl _) _ | exact X.below_row HDd.out.low (Nat.le_refl _) _)⟩
    case rest =>
      obtain ⟨rfl, rfl, HYz, HBz⟩ := hcut
      clear hst kp kp2 hst2 yd
      go_wp2_with fail
      have hres := HRES.out
      simp only [Prod.mk.injEq] at hres
      obtain ⟨rfl, rfl, rfl, rfl, rfl, rfl, rfl, rfl, rfl, rfl, rfl, rfl, rfl, rfl, rfl, rfl, rfl, rfl, rfl, rfl, rfl⟩ := hres
      refine bodyPost_ret (results_ctt rfl _ _ W.heap.size 30 #[.int .i64 0, .bool false, .int .i64 0, .int .i64 0, .int .i64 0, .int .i64 0, .int .i64 0, .int .i64 0, .int .i64 0, .bool false, .bool false, .int .i64 0, .int .i64 0, .int .i64 0, .int .i64 0, .int .i64 0, .int .i64 0, .slice none 0 0, .string ⟨#[]⟩] (0, 0) _ rfl (by with_reducible exact HYz.out) Try.underlying30 rfl (by kernel_rfl)) rfl ?_
      exact ⟨_, rfl, Kd.R_of_own (enc := Value.int .i64) (World.ownsRow_nil _ _ _ _) (fun _ _ => trivial), HBz.out⟩
set_option maxHeartbeats 8000000 in
set_option maxRecDepth 100000 in
theorem dp_6l (s : ByteArray) (W : World) (o0 : Ok ⟨s, 0, 0⟩) (k : Int) (q1 : CS) (e0 : intC ⟨s, 0, 0⟩ 1 = some (k, q1)) (o1 : Ok q1) (b : ByteArray) (q2 : CS) (e1 : bytesC q1 3 = some (b, q2)) (o2 : Ok q2) (x : Int) (q3 : CS) (e2 : intC q2 4 = some (x, q3)) (o3 : Ok q3) (hc0 : q1.ce = 0) (hk : k = 6) (hx : x > 4096) (r0 : Int) (r1 : Bool) (r2 : Int) (r3 : Int) (r4 : Int) (r5 : Int) (r6 : Int) (r7 : Int) (r8 : Int) (r9 : Bool) (r10 : Bool) (r11 : Int) (r12 : Int) (r13 : Int) (r14 : Int) (r15 : Int) (r16 : Int) (r17 : List Int) (r18 : ByteArray) (n e : Int) (hres : (0, false, 0, 0, 0, 0, 0, 0, 0, false, false, 0, 0, 0, 0, 0, 0, [], ⟨#[]⟩, 0, 4) = (r0, r1, r2, r3, r4, r5, r6, r7, r8, r9, r10, r11, r12, r13, r14, r15, r16, r17, r18, n, e)) :
    Calls Try.prog 9 #[.string s] W fun en w' => ∃ v0_ : Value, en = .returned (.tuple #[.agg #[.int .i64 r0, .bool r1, .int .i64 r2, .int .i64 r3, .int .i64 r4, .int .i64 r5, .int .i64 r6, .int .i64 r7, .int .i64 r8, .bool r9, .bool r10, .int .i64 r11, .int .i64 r12, .int .i64 r13, .int .i64 r14, .int .i64 r15, .int .i64 r16, v0_, .string r18], .int .i64 n, .int .i64 e]) ∧ Kd.R (Kd.int .i64) 3 w' W.heap.size (fun _ => True) v0_ r17 ∧ Below W.heap.size W w' := by
  have E0 := Lib.hid e0
  have E1 := Lib.hid e1
  have E2 := Lib.hid e2
  have O0 := Lib.hid o0
  have O1 := Lib.hid o1
  have O2 := Lib.hid o2
  have O3 := Lib.hid o3
  have HRES := Lib.hid hres
  clear hres e0 e1 e2 o0 o1 o2 o3
  obtain ⟨Wa, hWa⟩ : ∃ X, (W.alloc (.cells #[.int .i64 0, .bool false, .int .i64 0, .int .i64 0, .int .i64 0, .int .i64 0, .int .i64 0, .int .i64 0, .int .i64 0, .bool false, .bool false, .int .i64 0, .int .i64 0, .int .i64 0, .int .i64 0, .int .i64 0, .int .i64 0, .slice none 0 0, .string ⟨#[]⟩] 30)).alloc (.cells #[.string s, .int .i64 0, .int .i64 0] 58) = X := ⟨_, rfl⟩
  have HRa := Lib.hid (show Wa.heap[W.heap.size]? = some (.cells #[.int .i64 0, .bool false, .int .i64 0, .int .i64 0, .int .i64 0, .int .i64 0, .int .i64 0, .int .i64 0, .int .i64 0, .bool false, .bool false, .int .i64 0, .int .i64 0, .int .i64 0, .int .i64 0, .int .i64 0, .int .i64 0, .slice none 0 0, .string ⟨#[]⟩] 30 (0, 0)) from by rw [← hWa]; exact (Below.heap_alloc _ _ _ (by simp)).trans (heap_alloc_new W _))
  have HDa := Lib.hid (show Du W (W.heap.size + 1) ⟨s, 0, 0⟩ Wa from by rw [← hWa]; exact ⟨⟨by have h0 := heap_alloc_new (W.alloc (.cells #[.int .i64 0, .bool false, .int .i64 0, .int .i64 0, .int .i64 0, .int .i64 0, .int .i64 0, .int .i64 0, .int .i64 0, .bool false, .bool false, .int .i64 0, .int .i64 0, .int .i64 0, .int .i64 0, .int .i64 0, .int .i64 0, .slice none 0 0, .string ⟨#[]⟩] 30)) (.cells #[.string s, .int .i64 0, .int .i64 0] 58); rwa [World.size_alloc] at h0, Nat.le_succ _⟩, below_alloc (below_alloc (Below.refl _ _) _) _⟩)
  have nrc : W.heap.size ≠ (W.heap.size + 1) := by omega
  go_enter Try.func9, Try.ntmps9
  go_upto_region 2 with (fail)
  try rw [hWa]
  clear hWa
  go_wp2_with fail
  refine (rint_k W (W.heap.size + 1) ⟨s, 0, 0⟩ 1 k q1 Wa HDa.out O0.out (by first | exact .inl rfl | exact .inr (.inl rfl) | exact .inr (.inr rfl)) E0.out).mono ?_
  rintro en W1 ⟨rfl, h1, hk⟩
  have HD1 := Lib.hid h1
  have HR1 := Lib.hid (hk.blk HRa.out nrc)
  clear h1 hk
  have y1 : W1.cell? ⟨(W.heap.size + 1), 2, none⟩ = some (.int .i64 q1.ce) := (blk_cell HD1.out.1.1 2).trans rfl
  subst hk
  rw [hc0] at y1
  clear hc0
  obtain ⟨Wm, hWm⟩ : ∃ X, W1.alloc (.cells #[.int .i64 0, .bool false, .int .i64 0, .int .i64 0, .int .i64 0, .int .i64 0, .int .i64 0, .int .i64 0, .int .i64 0, .bool false, .bool false, .int .i64 0, .int .i64 0, .int .i64 0, .int .i64 0, .int .i64 0, .int .i64 0, .slice none 0 0, .string ⟨#[]⟩] 30) = X := ⟨_, rfl⟩
  have hbm := below_alloc (Below.refl W1.heap.size W1) (.cells #[.int .i64 0, .bool false, .int .i64 0, .int .i64 0, .int .i64 0, .int .i64 0, .int .i64 0, .int .i64 0, .int .i64 0, .bool false, .bool false, .int .i64 0, .int .i64 0, .int .i64 0, .int .i64 0, .int .i64 0, .int .i64 0, .slice none 0 0, .string ⟨#[]⟩] 30)
  rw [hWm] at hbm
  have HDm := Lib.hid (HD1.out.below hbm)
  have HRm := Lib.hid (blk_below HR1.out hbm)
  have HMm := Lib.hid (show Wm.heap[W1.heap.size]? = some (.cells #[.int .i64 0, .bool false, .int .i64 0, .int .i64 0, .int .i64 0, .int .i64 0, .int .i64 0, .int .i64 0, .int .i64 0, .bool false, .bool false, .int .i64 0, .int .i64 0, .int .i64 0, .int .i64 0, .int .i64 0, .int .i64 0, .slice none 0 0, .string ⟨#[]⟩] 30 (0, 0)) from by rw [← hWm]; exact heap_alloc_new W1 _)
  have hc9 := HD1.out.lt
  have nmc : W1.heap.size ≠ (W.heap.size + 1) := by omega
  have nmr : W.heap.size ≠ W1.heap.size := by omega
  have hmg : W.heap.size + 1 < W1.heap.size := by omega
  go_upto_region 6 with (fail)
  try rw [hWm]
  clear hWm hbm hc9 y1 HD1 HR1
  obtain ⟨mb, hmb⟩ : ∃ x, W1.heap.size = x := ⟨_, rfl⟩
  rw [hmb] at HMm nmc nmr hmg ⊢
  clear hmb
  go_wp2_with fail
  refine (rbytes_k W (W.heap.size + 1) q1 3 b q2 Wm HDm.out O1.out  E1.out).mono ?_
  rintro en W2 ⟨rfl, h1, hk⟩
  have HD2 := Lib.hid h1
  have HR2 := Lib.hid (hk.blk HRm.out nrc)
  have HM2 := Lib.hid (hk.blk HMm.out nmc)
  clear h1 hk
  have y2 : W2.cell? ⟨(W.heap.size + 1), 2, none⟩ = some (.int .i64 q2.ce) := (blk_cell HD2.out.1.1 2).trans rfl
  go_wp2_with fail
  refine (rint_k W (W.heap.size + 1) q2 4 x q3 W2 HD2.out O2.out (by first | exact .inl rfl | exact .inr (.inl rfl) | exact .inr (.inr rfl)) E2.out).mono ?_
  rintro en W3 ⟨rfl, h1, hk⟩
  have HD3 := Lib.hid h1
  have HR3 := Lib.hid (hk.blk HR2.out nrc)
  have HM3 := Lib.hid (hk.blk HM2.out nmc)
  clear h1 hk
  have y3 : W3.cell? ⟨(W.heap.size + 1), 2, none⟩ = some (.int .i64 q3.ce) := (blk_cell HD3.out.1.1 2).trans rfl
  clear y2
  have dx : decide (x > 4096) = true := decide_eq_true hx
  have dx2 : decide (4096 < x) = true := decide_eq_true hx
  clear hx
  have hst : X.rowAt W3 W.heap.size 30 19 = true := X.rowAt_of HR3.out rfl
  have HYz := Lib.hid (setRow_heap W3 W.heap.size _ #[.int .i64 0, .bool false, .int .i64 0, .int .i64 0, .int .i64 0, .int .i64 0, .int .i64 0, .int .i64 0, .int .i64 0, .bool false, .bool false, .int .i64 0, .int .i64 0, .int .i64 0, .int .i64 0, .int .i64 0, .int .i64 0, .slice none 0 0, .string ⟨#[]⟩] _ _ HR3.out)
  have HBz := Lib.hid (X.below_row HD3.out.low (Nat.le_refl _) #[.int .i64 0, .bool false, .int .i64 0, .int .i64 0, .int .i64 0, .int .i64 0, .int .i64 0, .int .i64 0, .int .i64 0, .bool false, .bool false, .int .i64 0, .int .i64 0, .int .i64 0, .int .i64 0, .int .i64 0, .int .i64 0, .slice none 0 0, .string ⟨#[]⟩])
  go_wp2_with fail
  have hres := HRES.out
  simp only [Prod.mk.injEq] at hres
  obtain ⟨rfl, rfl, rfl, rfl, rfl, rfl, rfl, rfl, rfl, rfl, rfl, rfl, rfl, rfl, rfl, rfl, rfl, rfl, rfl, rfl, rfl⟩ := hres
  refine bodyPost_ret (results_ctt rfl _ _ W.heap.size 30 #[.int .i64 0, .bool false, .int .i64 0, .int .i64 0, .int .i64 0, .int .i64 0, .int .i64 0, .int .i64 0, .int .i64 0, .bool false, .bool false, .int .i64 0, .int .i64 0, .int .i64 0, .int .i64 0, .int .i64 0, .int .i64 0, .slice none 0 0, .string ⟨#[]⟩] (0, 0) _ rfl (by with_reducible exact HYz.out) Try.underlying30 rfl (by kernel_rfl)) rfl ?_
  exact ⟨_, rfl, Kd.R_of_own (enc := Value.int .i64) (World.ownsRow_nil _ _ _ _) (fun _ _ => trivial), HBz.out⟩
set_option maxHeartbeats 8000000 in
set_option maxRecDepth 100000 in
theorem dp_x (s : ByteArray) (W : World) (o0 : Ok ⟨s, 0, 0⟩) (k : Int) (q1 : CS) (e0 : intC ⟨s, 0, 0⟩ 1 = some (k, q1)) (o1 : Ok q1) (hc0 : q1.ce = 0) (hk : ¬ K k) (r0 : Int) (r1 : Bool) (r2 : Int) (r3 : Int) (r4 : Int) (r5 : Int) (r6 : Int) (r7 : Int) (r8 : Int) (r9 : Bool) (r10 : Bool) (r11 : Int) (r12 : Int) (r13 : Int) (r14 : Int) (r15 : Int) (r16 : Int) (r17 : List Int) (r18 : ByteArray) (n e : Int) (hres : (0, false, 0, 0, 0, 0, 0, 0, 0, false, false, 0, 0, 0, 0, 0, 0, [], ⟨#[]⟩, 0, 222) = (r0, r1, r2, r3, r4, r5, r6, r7, r8, r9, r10, r11, r12, r13, r14, r15, r16, r17, r18, n, e)) :
    Calls Try.prog 9 #[.string s] W fun en w' => ∃ v0_ : Value, en = .returned (.tuple #[.agg #[.int .i64 r0, .bool r1, .int .i64 r2, .int .i64 r3, .int .i64 r4, .int .i64 r5, .int .i64 r6, .int .i64 r7, .int .i64 r8, .bool r9, .bool r10, .int .i64 r11, .int .i64 r12, .int .i64 r13, .int .i64 r14, .int .i64 r15, .int .i64 r16, v0_, .string r18], .int .i64 n, .int .i64 e]) ∧ Kd.R (Kd.int .i64) 3 w' W.heap.size (fun _ => True) v0_ r17 ∧ Below W.heap.size W w' := by
  have E0 := Lib.hid e0
  have O0 := Lib.hid o0
  have O1 := Lib.hid o1
  have HRES := Lib.hid hres
  clear hres e0 o0 o1
  obtain ⟨Wa, hWa⟩ : ∃ X, (W.alloc (.cells #[.int .i64 0, .bool false, .int .i64 0, .int .i64 0, .int .i64 0, .int .i64 0, .int .i64 0, .int .i64 0, .int .i64 0, .bool false, .bool false, .int .i64 0, .int .i64 0, .int .i64 0, .int .i64 0, .int .i64 0, .int .i64 0, .slice none 0 0, .string ⟨#[]⟩] 30)).alloc (.cells #[.string s, .int .i64 0, .int .i64 0] 58) = X := ⟨_, rfl⟩
  have HRa := Lib.hid (show Wa.heap[W.heap.size]? = some (.cells #[.int .i64 0, .bool false, .int .i64 0, .int .i64 0, .int .i64 0, .int .i64 0, .int .i64 0, .int .i64 0, .int .i64 0, .bool false, .bool false, .int .i64 0, .int .i64 0, .int .i64 0, .int .i64 0, .int .i64 0, .int .i64 0, .slice none 0 0, .string ⟨#[]⟩] 30 (0, 0)) from by rw [← hWa]; exact (Below.heap_alloc _ _ _ (by simp)).trans (heap_alloc_new W _))
  have HDa := Lib.hid (show Du W (W.heap.size + 1) ⟨s, 0, 0⟩ Wa from by rw [← hWa]; exact ⟨⟨by have h0 := heap_alloc_new (W.alloc (.cells #[.int .i64 0, .bool false, .int .i64 0, .int .i64 0, .int .i64 0, .int .i64 0, .int .i64 0, .int .i64 0, .int .i64 0, .bool false, .bool false, .int .i64 0, .int .i64 0, .int .i64 0, .int .i64 0, .int .i64 0, .int .i64 0, .slice none 0 0, .string ⟨#[]⟩] 30)) (.cells #[.string s, .int .i64 0, .int .i64 0] 58); rwa [World.size_alloc] at h0, Nat.le_succ _⟩, below_alloc (below_alloc (Below.refl _ _) _) _⟩)
  have nrc : W.heap.size ≠ (W.heap.size + 1) := by omega
  go_enter Try.func9, Try.ntmps9
  go_upto_region 2 with (fail)
  try rw [hWa]
  clear hWa
  go_wp2_with fail
  refine (rint_k W (W.heap.size + 1) ⟨s, 0, 0⟩ 1 k q1 Wa HDa.out O0.out (by first | exact .inl rfl | exact .inr (.inl rfl) | exact .inr (.inr rfl)) E0.out).mono ?_
  rintro en W1 ⟨rfl, h1, hk⟩
  have HD1 := Lib.hid h1
  have HR1 := Lib.hid (hk.blk HRa.out nrc)
  clear h1 hk
  have y1 : W1.cell? ⟨(W.heap.size + 1), 2, none⟩ = some (.int .i64 q1.ce) := (blk_cell HD1.out.1.1 2).trans rfl
  rw [hc0] at y1
  clear hc0
  obtain ⟨Wm, hWm⟩ : ∃ X, W1.alloc (.cells #[.int .i64 0, .bool false, .int .i64 0, .int .i64 0, .int .i64 0, .int .i64 0, .int .i64 0, .int .i64 0, .int .i64 0, .bool false, .bool false, .int .i64 0, .int .i64 0, .int .i64 0, .int .i64 0, .int .i64 0, .int .i64 0, .slice none 0 0, .string ⟨#[]⟩] 30) = X := ⟨_, rfl⟩
  have hbm := below_alloc (Below.refl W1.heap.size W1) (.cells #[.int .i64 0, .bool false, .int .i64 0, .int .i64 0, .int .i64 0, .int .i64 0, .int .i64 0, .int .i64 0, .int .i64 0, .bool false, .bool false, .int .i64 0, .int .i64 0, .int .i64 0, .int .i64 0, .int .i64 0, .int .i64 0, .slice none 0 0, .string ⟨#[]⟩] 30)
  rw [hWm] at hbm
  have HDm := Lib.hid (HD1.out.below hbm)
  have HRm := Lib.hid (blk_below HR1.out hbm)
  have HMm := Lib.hid (show Wm.heap[W1.heap.size]? = some (.cells #[.int .i64 0, .bool false, .int .i64 0, .int .i64 0, .int .i64 0, .int .i64 0, .int .i64 0, .int .i64 0, .int .i64 0, .bool false, .bool false, .int .i64 0, .int .i64 0, .int .i64 0, .int .i64 0, .int .i64 0, .int .i64 0, .slice none 0 0, .string ⟨#[]⟩] 30 (0, 0)) from by rw [← hWm]; exact heap_alloc_new W1 _)
  have hc9 := HD1.out.lt
  have nmc : W1.heap.size ≠ (W.heap.size + 1) := by omega
  have nmr : W.heap.size ≠ W1.heap.size := by omega
  have hmg : W.heap.size + 1 < W1.heap.size := by omega
  go_upto_region 6 with (fail)
  try rw [hWm]
  clear hWm hbm hc9 y1 HD1 HR1
  obtain ⟨mb, hmb⟩ : ∃ x, W1.heap.size = x := ⟨_, rfl⟩
  rw [hmb] at HMm nmc nmr hmg ⊢
  clear hmb
  have d0 : (k == 0) = false := by simpa using fun h => hk (by unfold K; omega)
  have d2 : (k == 2) = false := by simpa using fun h => hk (by unfold K; omega)
  have d3 : (k == 3) = false := by simpa using fun h => hk (by unfold K; omega)
  have d4 : (k == 4) = false := by simpa using fun h => hk (by unfold K; omega)
  have d5 : (k == 5) = false := by simpa using fun h => hk (by unfold K; omega)
  have d6 : (k == 6) = false := by simpa using fun h => hk (by unfold K; omega)
  clear hk
  have hst : X.rowAt Wm W.heap.size 30 19 = true := X.rowAt_of HRm.out rfl
  have HYz := Lib.hid (setRow_heap Wm W.heap.size _ #[.int .i64 0, .bool false, .int .i64 0, .int .i64 0, .int .i64 0, .int .i64 0, .int .i64 0, .int .i64 0, .int .i64 0, .bool false, .bool false, .int .i64 0, .int .i64 0, .int .i64 0, .int .i64 0, .int .i64 0, .int .i64 0, .slice none 0 0, .string ⟨#[]⟩] _ _ HRm.out)
  have HBz := Lib.hid (X.below_row HDm.out.low (Nat.le_refl _) #[.int .i64 0, .bool false, .int .i64 0, .int .i64 0, .int .i64 0, .int .i64 0, .int .i64 0, .int .i64 0, .int .i64 0, .bool false, .bool false, .int .i64 0, .int .i64 0, .int .i64 0, .int .i64 0, .int .i64 0, .int .i64 0, .slice none 0 0, .string ⟨#[]⟩])
  go_wp2_with fail
  have hres := HRES.out
  simp only [Prod.mk.injEq] at hres
  obtain ⟨rfl, rfl, rfl, rfl, rfl, rfl, rfl, rfl, rfl, rfl, rfl, rfl, rfl, rfl, rfl, rfl, rfl, rfl, rfl, rfl, rfl⟩ := hres
  refine bodyPost_ret (results_ctt rfl _ _ W.heap.size 30 #[.int .i64 0, .bool false, .int .i64 0, .int .i64 0, .int .i64 0, .int .i64 0, .int .i64 0, .int .i64 0, .int .i64 0, .bool false, .bool false, .int .i64 0, .int .i64 0, .int .i64 0, .int .i64 0, .int .i64 0, .int .i64 0, .slice none 0 0, .string ⟨#[]⟩] (0, 0) _ rfl (by with_reducible exact HYz.out) Try.underlying30 rfl (by kernel_rfl)) rfl ?_
  exact ⟨_, rfl, Kd.R_of_own (enc := Value.int .i64) (World.ownsRow_nil _ _ _ _) (fun _ _ => trivial), HBz.out⟩
set_option maxHeartbeats 8000000 in
set_option maxRecDepth 100000 in
theorem dp_2l (s : ByteArray) (W : World) (o0 : Ok ⟨s, 0, 0⟩) (k : Int) (q1 : CS) (e0 : intC ⟨s, 0, 0⟩ 1 = some (k, q1)) (o1 : Ok q1) (b : ByteArray) (q2 : CS) (e1 : bytesC q1 1 = some (b, q2)) (o2 : Ok q2) (x : Int) (q3 : CS) (e2 : intC q2 2 = some (x, q3)) (o3 : Ok q3) (hc0 : q1.ce = 0) (hk : k = 2) (hx : x > 256) (r0 : Int) (r1 : Bool) (r2 : Int) (r3 : Int) (r4 : Int) (r5 : Int) (r6 : Int) (r7 : Int) (r8 : Int) (r9 : Bool) (r10 : Bool) (r11 : Int) (r12 : Int) (r13 : Int) (r14 : Int) (r15 : Int) (r16 : Int) (r17 : List Int) (r18 : ByteArray) (n e : Int) (hres : (0, false, 0, 0, 0, 0, 0, 0, 0, false, false, 0, 0, 0, 0, 0, 0, [], ⟨#[]⟩, 0, 4) = (r0, r1, r2, r3, r4, r5, r6, r7, r8, r9, r10, r11, r12, r13, r14, r15, r16, r17, r18, n, e)) :
    Calls Try.prog 9 #[.string s] W fun en w' => ∃ v0_ : Value, en = .returned (.tuple #[.agg #[.int .i64 r0, .bool r1, .int .i64 r2, .int .i64 r3, .int .i64 r4, .int .i64 r5, .int .i64 r6, .int .i64 r7, .int .i64 r8, .bool r9, .bool r10, .int .i64 r11, .int .i64 r12, .int .i64 r13, .int .i64 r14, .int .i64 r15, .int .i64 r16, v0_, .string r18], .int .i64 n, .int .i64 e]) ∧ Kd.R (Kd.int .i64) 3 w' W.heap.size (fun _ => True) v0_ r17 ∧ Below W.heap.size W w' := by
  have E0 := Lib.hid e0
  have E1 := Lib.hid e1
  have E2 := Lib.hid e2
  have O0 := Lib.hid o0
  have O1 := Lib.hid o1
  have O2 := Lib.hid o2
  have O3 := Lib.hid o3
  have HRES := Lib.hid hres
  clear hres e0 e1 e2 o0 o1 o2 o3
  obtain ⟨Wa, hWa⟩ : ∃ X, (W.alloc (.cells #[.int .i64 0, .bool false, .int .i64 0, .int .i64 0, .int .i64 0, .int .i64 0, .int .i64 0, .int .i64 0, .int .i64 0, .bool false, .bool false, .int .i64 0, .int .i64 0, .int .i64 0, .int .i64 0, .int .i64 0, .int .i64 0, .slice none 0 0, .string ⟨#[]⟩] 30)).alloc (.cells #[.string s, .int .i64 0, .int .i64 0] 58) = X := ⟨_, rfl⟩
  have HRa := Lib.hid (show Wa.heap[W.heap.size]? = some (.cells #[.int .i64 0, .bool false, .int .i64 0, .int .i64 0, .int .i64 0, .int .i64 0, .int .i64 0, .int .i64 0, .int .i64 0, .bool false, .bool false, .int .i64 0, .int .i64 0, .int .i64 0, .int .i64 0, .int .i64 0, .int .i64 0, .slice none 0 0, .string ⟨#[]⟩] 30 (0, 0)) from by rw [← hWa]; exact (Below.heap_alloc _ _ _ (by simp)).trans (heap_alloc_new W _))
  have HDa := Lib.hid (show Du W (W.heap.size + 1) ⟨s, 0, 0⟩ Wa from by rw [← hWa]; exact ⟨⟨by have h0 := heap_alloc_new (W.alloc (.cells #[.int .i64 0, .bool false, .int .i64 0, .int .i64 0, .int .i64 0, .int .i64 0, .int .i64 0, .int .i64 0, .int .i64 0, .bool false, .bool false, .int .i64 0, .int .i64 0, .int .i64 0, .int .i64 0, .int .i64 0, .int .i64 0, .slice none 0 0, .string ⟨#[]⟩] 30)) (.cells #[.string s, .int .i64 0, .int .i64 0] 58); rwa [World.size_alloc] at h0, Nat.le_succ _⟩, below_alloc (below_alloc (Below.refl _ _) _) _⟩)
  have nrc : W.heap.size ≠ (W.heap.size + 1) := by omega
  go_enter Try.func9, Try.ntmps9
  go_upto_region 2 with (fail)
  try rw [hWa]
  clear hWa
  go_wp2_with fail
  refine (rint_k W (W.heap.size + 1) ⟨s, 0, 0⟩ 1 k q1 Wa HDa.out O0.out (by first | exact .inl rfl | exact .inr (.inl rfl) | exact .inr (.inr rfl)) E0.out).mono ?_
  rintro en W1 ⟨rfl, h1, hk⟩
  have HD1 := Lib.hid h1
  have HR1 := Lib.hid (hk.blk HRa.out nrc)
  clear h1 hk
  have y1 : W1.cell? ⟨(W.heap.size + 1), 2, none⟩ = some (.int .i64 q1.ce) := (blk_cell HD1.out.1.1 2).trans rfl
  subst hk
  rw [hc0] at y1
  clear hc0
  obtain ⟨Wm, hWm⟩ : ∃ X, W1.alloc (.cells #[.int .i64 0, .bool false, .int .i64 0, .int .i64 0, .int .i64 0, .int .i64 0, .int .i64 0, .int .i64 0, .int .i64 0, .bool false, .bool false, .int .i64 0, .int .i64 0, .int .i64 0, .int .i64 0, .int .i64 0, .int .i64 0, .slice none 0 0, .string ⟨#[]⟩] 30) = X := ⟨_, rfl⟩
  have hbm := below_alloc (Below.refl W1.heap.size W1) (.cells #[.int .i64 0, .bool false, .int .i64 0, .int .i64 0, .int .i64 0, .int .i64 0, .int .i64 0, .int .i64 0, .int .i64 0, .bool false, .bool false, .int .i64 0, .int .i64 0, .int .i64 0, .int .i64 0, .int .i64 0, .int .i64 0, .slice none 0 0, .string ⟨#[]⟩] 30)
  rw [hWm] at hbm
  have HDm := Lib.hid (HD1.out.below hbm)
  have HRm := Lib.hid (blk_below HR1.out hbm)
  have HMm := Lib.hid (show Wm.heap[W1.heap.size]? = some (.cells #[.int .i64 0, .bool false, .int .i64 0, .int .i64 0, .int .i64 0, .int .i64 0, .int .i64 0, .int .i64 0, .int .i64 0, .bool false, .bool false, .int .i64 0, .int .i64 0, .int .i64 0, .int .i64 0, .int .i64 0, .int .i64 0, .slice none 0 0, .string ⟨#[]⟩] 30 (0, 0)) from by rw [← hWm]; exact heap_alloc_new W1 _)
  have hc9 := HD1.out.lt
  have nmc : W1.heap.size ≠ (W.heap.size + 1) := by omega
  have nmr : W.heap.size ≠ W1.heap.size := by omega
  have hmg : W.heap.size + 1 < W1.heap.size := by omega
  go_upto_region 6 with (fail)
  try rw [hWm]
  clear hWm hbm hc9 y1 HD1 HR1
  obtain ⟨mb, hmb⟩ : ∃ x, W1.heap.size = x := ⟨_, rfl⟩
  rw [hmb] at HMm nmc nmr hmg ⊢
  clear hmb
  go_wp2_with fail
  refine (rbytes_k W (W.heap.size + 1) q1 1 b q2 Wm HDm.out O1.out  E1.out).mono ?_
  rintro en W2 ⟨rfl, h1, hk⟩
  have HD2 := Lib.hid h1
  have HR2 := Lib.hid (hk.blk HRm.out nrc)
  have HM2 := Lib.hid (hk.blk HMm.out nmc)
  clear h1 hk
  have y2 : W2.cell? ⟨(W.heap.size + 1), 2, none⟩ = some (.int .i64 q2.ce) := (blk_cell HD2.out.1.1 2).trans rfl
  go_wp2_with fail
  refine (rint_k W (W.heap.size + 1) q2 2 x q3 W2 HD2.out O2.out (by first | exact .inl rfl | exact .inr (.inl rfl) | exact .inr (.inr rfl)) E2.out).mono ?_
  rintro en W3 ⟨rfl, h1, hk⟩
  have HD3 := Lib.hid h1
  have HR3 := Lib.hid (hk.blk HR2.out nrc)
  have HM3 := Lib.hid (hk.blk HM2.out nmc)
  clear h1 hk
  have y3 : W3.cell? ⟨(W.heap.size + 1), 2, none⟩ = some (.int .i64 q3.ce) := (blk_cell HD3.out.1.1 2).trans rfl
  clear y2
  have dx : decide (x > 256) = true := decide_eq_true hx
  have dx2 : decide (256 < x) = true := decide_eq_true hx
  clear hx
  have hst : X.rowAt W3 W.heap.size 30 19 = true := X.rowAt_of HR3.out rfl
  have HYz := Lib.hid (setRow_heap W3 W.heap.size _ #[.int .i64 0, .bool false, .int .i64 0, .int .i64 0, .int .i64 0, .int .i64 0, .int .i64 0, .int .i64 0, .int .i64 0, .bool false, .bool false, .int .i64 0, .int .i64 0, .int .i64 0, .int .i64 0, .int .i64 0, .int .i64 0, .slice none 0 0, .string ⟨#[]⟩] _ _ HR3.out)
  have HBz := Lib.hid (X.below_row HD3.out.low (Nat.le_refl _) #[.int .i64 0, .bool false, .int .i64 0, .int .i64 0, .int .i64 0, .int .i64 0, .int .i64 0, .int .i64 0, .int .i64 0, .bool false, .bool false, .int .i64 0, .int .i64 0, .int .i64 0, .int .i64 0, .int .i64 0, .int .i64 0, .slice none 0 0, .string ⟨#[]⟩])
  go_wp2_with fail
  have hres := HRES.out
  simp only [Prod.mk.injEq] at hres
  obtain ⟨rfl, rfl, rfl, rfl, rfl, rfl, rfl, rfl, rfl, rfl, rfl, rfl, rfl, rfl, rfl, rfl, rfl, rfl, rfl, rfl, rfl⟩ := hres
  refine bodyPost_ret (results_ctt rfl _ _ W.heap.size 30 #[.int .i64 0, .bool false, .int .i64 0, .int .i64 0, .int .i64 0, .int .i64 0, .int .i64 0, .int .i64 0, .int .i64 0, .bool false, .bool false, .int .i64 0, .int .i64 0, .int .i64 0, .int .i64 0, .int .i64 0, .int .i64 0, .slice none 0 0, .string ⟨#[]⟩] (0, 0) _ rfl (by with_reducible exact HYz.out) Try.underlying30 rfl (by kernel_rfl)) rfl ?_
  exact ⟨_, rfl, Kd.R_of_own (enc := Value.int .i64) (World.ownsRow_nil _ _ _ _) (fun _ _ => trivial), HBz.out⟩
set_option maxHeartbeats 8000000 in
set_option maxRecDepth 100000 in
theorem dp_0a (s : ByteArray) (W : World) (o0 : Ok ⟨s, 0, 0⟩) (k : Int) (q1 : CS) (e0 : intC ⟨s, 0, 0⟩ 1 = some (k, q1)) (o1 : Ok q1) (b : ByteArray) (q2 : CS) (e1 : bytesC q1 3 = some (b, q2)) (o2 : Ok q2) (t : ByteArray) (q3 : CS) (e2 : bytesC q2 16 = some (t, q3)) (o3 : Ok q3) (hc0 : q1.ce = 0) (hk : k = 0) (hq : q3.ce ≠ 0) (r0 : Int) (r1 : Bool) (r2 : Int) (r3 : Int) (r4 : Int) (r5 : Int) (r6 : Int) (r7 : Int) (r8 : Int) (r9 : Bool) (r10 : Bool) (r11 : Int) (r12 : Int) (r13 : Int) (r14 : Int) (r15 : Int) (r16 : Int) (r17 : List Int) (r18 : ByteArray) (n e : Int) (hres : (0, false, 0, 0, 0, 0, 0, 0, 0, false, false, 0, 0, 0, 0, 0, 0, [], ⟨#[]⟩, 0, q3.ce) = (r0, r1, r2, r3, r4, r5, r6, r7, r8, r9, r10, r11, r12, r13, r14, r15, r16, r17, r18, n, e)) :
    Calls Try.prog 9 #[.string s] W fun en w' => ∃ v0_ : Value, en = .returned (.tuple #[.agg #[.int .i64 r0, .bool r1, .int .i64 r2, .int .i64 r3, .int .i64 r4, .int .i64 r5, .int .i64 r6, .int .i64 r7, .int .i64 r8, .bool r9, .bool r10, .int .i64 r11, .int .i64 r12, .int .i64 r13, .int .i64 r14, .int .i64 r15, .int .i64 r16, v0_, .string r18], .int .i64 n, .int .i64 e]) ∧ Kd.R (Kd.int .i64) 3 w' W.heap.size (fun _ => True) v0_ r17 ∧ Below W.heap.size W w' := by
  have E0 := Lib.hid e0
  have E1 := Lib.hid e1
  have E2 := Lib.hid e2
  have O0 := Lib.hid o0
  have O1 := Lib.hid o1
  have O2 := Lib.hid o2
  have O3 := Lib.hid o3
  have HRES := Lib.hid hres
  clear hres e0 e1 e2 o0 o1 o2 o3
  obtain ⟨Wa, hWa⟩ : ∃ X, (W.alloc (.cells #[.int .i64 0, .bool false, .int .i64 0, .int .i64 0, .int .i64 0, .int .i64 0, .int .i64 0, .int .i64 0, .int .i64 0, .bool false, .bool false, .int .i64 0, .int .i64 0, .int .i64 0, .int .i64 0, .int .i64 0, .int .i64 0, .slice none 0 0, .string ⟨#[]⟩] 30)).alloc (.cells #[.string s, .int .i64 0, .int .i64 0] 58) = X := ⟨_, rfl⟩
  have HRa := Lib.hid (show Wa.heap[W.heap.size]? = some (.cells #[.int .i64 0, .bool false, .int .i64 0, .int .i64 0, .int .i64 0, .int .i64 0, .int .i64 0, .int .i64 0, .int .i64 0, .bool false, .bool false, .int .i64 0, .int .i64 0, .int .i64 0, .int .i64 0, .int .i64 0, .int .i64 0, .slice none 0 0, .string ⟨#[]⟩] 30 (0, 0)) from by rw [← hWa]; exact (Below.heap_alloc _ _ _ (by simp)).trans (heap_alloc_new W _))
  have HDa := Lib.hid (show Du W (W.heap.size + 1) ⟨s, 0, 0⟩ Wa from by rw [← hWa]; exact ⟨⟨by have h0 := heap_alloc_new (W.alloc (.cells #[.int .i64 0, .bool false, .int .i64 0, .int .i64 0, .int .i64 0, .int .i64 0, .int .i64 0, .int .i64 0, .int .i64 0, .bool false, .bool false, .int .i64 0, .int .i64 0, .int .i64 0, .int .i64 0, .int .i64 0, .int .i64 0, .slice none 0 0, .string ⟨#[]⟩] 30)) (.cells #[.string s, .int .i64 0, .int .i64 0] 58); rwa [World.size_alloc] at h0, Nat.le_succ _⟩, below_alloc (below_alloc (Below.refl _ _) _) _⟩)
  have nrc : W.heap.size ≠ (W.heap.size + 1) := by omega
  go_enter Try.func9, Try.ntmps9
  go_upto_region 2 with (fail)
  try rw [hWa]
  clear hWa
  go_wp2_with fail
  refine (rint_k W (W.heap.size + 1) ⟨s, 0, 0⟩ 1 k q1 Wa HDa.out O0.out (by first | exact .inl rfl | exact .inr (.inl rfl) | exact .inr (.inr rfl)) E0.out).mono ?_
  rintro en W1 ⟨rfl, h1, hk⟩
  have HD1 := Lib.hid h1
  have HR1 := Lib.hid (hk.blk HRa.out nrc)
  clear h1 hk
  have y1 : W1.cell? ⟨(W.heap.size + 1), 2, none⟩ = some (.int .i64 q1.ce) := (blk_cell HD1.out.1.1 2).trans rfl
  subst hk
  rw [hc0] at y1
  clear hc0
  obtain ⟨Wm, hWm⟩ : ∃ X, W1.alloc (.cells #[.int .i64 0, .bool false, .int .i64 0, .int .i64 0, .int .i64 0, .int .i64 0, .int .i64 0, .int .i64 0, .int .i64 0, .bool false, .bool false, .int .i64 0, .int .i64 0, .int .i64 0, .int .i64 0, .int .i64 0, .int .i64 0, .slice none 0 0, .string ⟨#[]⟩] 30) = X := ⟨_, rfl⟩
  have hbm := below_alloc (Below.refl W1.heap.size W1) (.cells #[.int .i64 0, .bool false, .int .i64 0, .int .i64 0, .int .i64 0, .int .i64 0, .int .i64 0, .int .i64 0, .int .i64 0, .bool false, .bool false, .int .i64 0, .int .i64 0, .int .i64 0, .int .i64 0, .int .i64 0, .int .i64 0, .slice none 0 0, .string ⟨#[]⟩] 30)
  rw [hWm] at hbm
  have HDm := Lib.hid (HD1.out.below hbm)
  have HRm := Lib.hid (blk_below HR1.out hbm)
  have HMm := Lib.hid (show Wm.heap[W1.heap.size]? = some (.cells #[.int .i64 0, .bool false, .int .i64 0, .int .i64 0, .int .i64 0, .int .i64 0, .int .i64 0, .int .i64 0, .int .i64 0, .bool false, .bool false, .int .i64 0, .int .i64 0, .int .i64 0, .int .i64 0, .int .i64 0, .int .i64 0, .slice none 0 0, .string ⟨#[]⟩] 30 (0, 0)) from by rw [← hWm]; exact heap_alloc_new W1 _)
  have hc9 := HD1.out.lt
  have nmc : W1.heap.size ≠ (W.heap.size + 1) := by omega
  have nmr : W.heap.size ≠ W1.heap.size := by omega
  have hmg : W.heap.size + 1 < W1.heap.size := by omega
  go_upto_region 6 with (fail)
  try rw [hWm]
  clear hWm hbm hc9 y1 HD1 HR1
  obtain ⟨mb, hmb⟩ : ∃ x, W1.heap.size = x := ⟨_, rfl⟩
  rw [hmb] at HMm nmc nmr hmg ⊢
  clear hmb
  go_wp2_with fail
  refine (rbytes_k W (W.heap.size + 1) q1 3 b q2 Wm HDm.out O1.out  E1.out).mono ?_
  rintro en W2 ⟨rfl, h1, hk⟩
  have HD2 := Lib.hid h1
  have HR2 := Lib.hid (hk.blk HRm.out nrc)
  have HM2 := Lib.hid (hk.blk HMm.out nmc)
  clear h1 hk
  have y2 : W2.cell? ⟨(W.heap.size + 1), 2, none⟩ = some (.int .i64 q2.ce) := (blk_cell HD2.out.1.1 2).trans rfl
  go_wp2_with fail
  refine (rbytes_k W (W.heap.size + 1) q2 16 t q3 W2 HD2.out O2.out  E2.out).mono ?_
  rintro en W3 ⟨rfl, h1, hk⟩
  have HD3 := Lib.hid h1
  have HR3 := Lib.hid (hk.blk HR2.out nrc)
  have HM3 := Lib.hid (hk.blk HM2.out nmc)
  clear h1 hk
  have y3 : W3.cell? ⟨(W.heap.size + 1), 2, none⟩ = some (.int .i64 q3.ce) := (blk_cell HD3.out.1.1 2).trans rfl
  clear y2
  have d7 : (q3.ce == 0) = false := by simpa using hq
  have d8 : (q3.ce != 0) = true := by simpa using hq
  clear hq
  have yd : W3.drew.cell? ⟨(W.heap.size + 1), 2, none⟩ = some (.int .i64 q3.ce) := y3
  have hst : X.rowAt W3.drew W.heap.size 30 19 = true := X.rowAt_of (blk_drew HR3.out) rfl
  have kp := kp51 (blk_drew HD3.out.1.1) (Ne.symm nrc) #[.int .i64 0, .bool false, .int .i64 0, .int .i64 0, .int .i64 0, .int .i64 0, .int .i64 0, .int .i64 0, .int .i64 0, .bool false, .bool false, .int .i64 0, .int .i64 0, .int .i64 0, .int .i64 0, .int .i64 0, .int .i64 0, .slice none 0 0, .string ⟨#[]⟩]
  have hst2 : X.rowAt W3 W.heap.size 30 19 = true := X.rowAt_of HR3.out rfl
  have kp2 := kp51 HD3.out.1.1 (Ne.symm nrc) #[.int .i64 0, .bool false, .int .i64 0, .int .i64 0, .int .i64 0, .int .i64 0, .int .i64 0, .int .i64 0, .int .i64 0, .bool false, .bool false, .int .i64 0, .int .i64 0, .int .i64 0, .int .i64 0, .int .i64 0, .int .i64 0, .slice none 0 0, .string ⟨#[]⟩]
  go_upto_region 51 with (fail)
  go_cut [3, 4] (fun s3 s4 wx => s3 = .int .i64 (0) ∧ s4 = .int .i64 (q3.ce) ∧ Hid (wx.heap[W.heap.size]? = some (.cells #[.int .i64 0, .bool false, .int .i64 0, .int .i64 0, .int .i64 0, .int .i64 0, .int .i64 0, .int .i64 0, .int .i64 0, .bool false, .bool false, .int .i64 0, .int .i64 0, .int .i64 0, .int .i64 0, .int .i64 0, .int .i64 0, .slice none 0 0, .string ⟨#[]⟩] 30 (0, 0))) ∧ Hid (Below W.heap.size W wx))
  case first =>
    go_region_held3 (fun w' => w'.cell? ⟨(W.heap.size + 1), 2, none⟩ = some (.int .i64 q3.ce)) (first | go_keep | exact kp | exact kp2) (fail)
    all_goals
      go_wp2_with fail
      go_meet
      exact ⟨rfl, rfl, Lib.hid (by first | exact setRow_heap _ _ _ _ _ _ (blk_drew HR3.out) | exact setRow_heap _ _ _ _ _ _ HR3.out), Lib.hid (by first | exact X.below_row (Below.drew HD3.out.low) (Nat.le_refl _) _ | exact X.below_row HD3.out.low (Nat.le_refl _) _)⟩
  case rest =>
    obtain ⟨rfl, rfl, HYz, HBz⟩ := hcut
    clear hst kp kp2 hst2 yd
    go_wp2_with fail
    have hres := HRES.out
    simp only [Prod.mk.injEq] at hres
    obtain ⟨rfl, rfl, rfl, rfl, rfl, rfl, rfl, rfl, rfl, rfl, rfl, rfl, rfl, rfl, rfl, rfl, rfl, rfl, rfl, rfl, rfl⟩ := hres
    refine bodyPost_ret (results_ctt rfl _ _ W.heap.size 30 #[.int .i64 0, .bool false, .int .i64 0, .int .i64 0, .int .i64 0, .int .i64 0, .int .i64 0, .int .i64 0, .int .i64 0, .bool false, .bool false, .int .i64 0, .int .i64 0, .int .i64 0, .int .i64 0, .int .i64 0, .int .i64 0, .slice none 0 0, .string ⟨#[]⟩] (0, 0) _ rfl (by with_reducible exact HYz.out) Try.underlying30 rfl (by kernel_rfl)) rfl ?_
    exact ⟨_, rfl, Kd.R_of_own (enc := Value.int .i64) (World.ownsRow_nil _ _ _ _) (fun _ _ => trivial), HBz.out⟩
set_option maxHeartbeats 8000000 in
set_option maxRecDepth 100000 in
theorem dp_0b (s : ByteArray) (W : World) (o0 : Ok ⟨s, 0, 0⟩) (k : Int) (q1 : CS) (e0 : intC ⟨s, 0, 0⟩ 1 = some (k, q1)) (o1 : Ok q1) (b : ByteArray) (q2 : CS) (e1 : bytesC q1 3 = some (b, q2)) (o2 : Ok q2) (t : ByteArray) (q3 : CS) (e2 : bytesC q2 16 = some (t, q3)) (o3 : Ok q3) (hc0 : q1.ce = 0) (hk : k = 0) (hq : q3.ce = 0) (g0 : Int) (g1 : Int) (g2 : Bool) (g3 : Bool) (g4 : Int) (g5 : Int) (g6 : Int) (g7 : Int) (g8 : Int) (g9 : Int) (ge : Int) (ef : miradorref13_Parse.f 40 t = some (g0, g1, g2, g3, g4, g5, g6, g7, g8, g9, ge)) (hg : ge ≠ 0) (r0 : Int) (r1 : Bool) (r2 : Int) (r3 : Int) (r4 : Int) (r5 : Int) (r6 : Int) (r7 : Int) (r8 : Int) (r9 : Bool) (r10 : Bool) (r11 : Int) (r12 : Int) (r13 : Int) (r14 : Int) (r15 : Int) (r16 : Int) (r17 : List Int) (r18 : ByteArray) (n e : Int) (hres : (0, false, 0, 0, 0, 0, 0, 0, 0, false, false, 0, 0, 0, 0, 0, 0, [], ⟨#[]⟩, 0, ge) = (r0, r1, r2, r3, r4, r5, r6, r7, r8, r9, r10, r11, r12, r13, r14, r15, r16, r17, r18, n, e)) :
    Calls Try.prog 9 #[.string s] W fun en w' => ∃ v0_ : Value, en = .returned (.tuple #[.agg #[.int .i64 r0, .bool r1, .int .i64 r2, .int .i64 r3, .int .i64 r4, .int .i64 r5, .int .i64 r6, .int .i64 r7, .int .i64 r8, .bool r9, .bool r10, .int .i64 r11, .int .i64 r12, .int .i64 r13, .int .i64 r14, .int .i64 r15, .int .i64 r16, v0_, .string r18], .int .i64 n, .int .i64 e]) ∧ Kd.R (Kd.int .i64) 3 w' W.heap.size (fun _ => True) v0_ r17 ∧ Below W.heap.size W w' := by
  have E0 := Lib.hid e0
  have E1 := Lib.hid e1
  have E2 := Lib.hid e2
  have O0 := Lib.hid o0
  have O1 := Lib.hid o1
  have O2 := Lib.hid o2
  have O3 := Lib.hid o3
  have HRES := Lib.hid hres
  clear hres e0 e1 e2 o0 o1 o2 o3
  obtain ⟨Wa, hWa⟩ : ∃ X, (W.alloc (.cells #[.int .i64 0, .bool false, .int .i64 0, .int .i64 0, .int .i64 0, .int .i64 0, .int .i64 0, .int .i64 0, .int .i64 0, .bool false, .bool false, .int .i64 0, .int .i64 0, .int .i64 0, .int .i64 0, .int .i64 0, .int .i64 0, .slice none 0 0, .string ⟨#[]⟩] 30)).alloc (.cells #[.string s, .int .i64 0, .int .i64 0] 58) = X := ⟨_, rfl⟩
  have HRa := Lib.hid (show Wa.heap[W.heap.size]? = some (.cells #[.int .i64 0, .bool false, .int .i64 0, .int .i64 0, .int .i64 0, .int .i64 0, .int .i64 0, .int .i64 0, .int .i64 0, .bool false, .bool false, .int .i64 0, .int .i64 0, .int .i64 0, .int .i64 0, .int .i64 0, .int .i64 0, .slice none 0 0, .string ⟨#[]⟩] 30 (0, 0)) from by rw [← hWa]; exact (Below.heap_alloc _ _ _ (by simp)).trans (heap_alloc_new W _))
  have HDa := Lib.hid (show Du W (W.heap.size + 1) ⟨s, 0, 0⟩ Wa from by rw [← hWa]; exact ⟨⟨by have h0 := heap_alloc_new (W.alloc (.cells #[.int .i64 0, .bool false, .int .i64 0, .int .i64 0, .int .i64 0, .int .i64 0, .int .i64 0, .int .i64 0, .int .i64 0, .bool false, .bool false, .int .i64 0, .int .i64 0, .int .i64 0, .int .i64 0, .int .i64 0, .int .i64 0, .slice none 0 0, .string ⟨#[]⟩] 30)) (.cells #[.string s, .int .i64 0, .int .i64 0] 58); rwa [World.size_alloc] at h0, Nat.le_succ _⟩, below_alloc (below_alloc (Below.refl _ _) _) _⟩)
  have nrc : W.heap.size ≠ (W.heap.size + 1) := by omega
  go_enter Try.func9, Try.ntmps9
  go_upto_region 2 with (fail)
  try rw [hWa]
  clear hWa
  go_wp2_with fail
  refine (rint_k W (W.heap.size + 1) ⟨s, 0, 0⟩ 1 k q1 Wa HDa.out O0.out (by first | exact .inl rfl | exact .inr (.inl rfl) | exact .inr (.inr rfl)) E0.out).mono ?_
  rintro en W1 ⟨rfl, h1, hk⟩
  have HD1 := Lib.hid h1
  have HR1 := Lib.hid (hk.blk HRa.out nrc)
  clear h1 hk
  have y1 : W1.cell? ⟨(W.heap.size + 1), 2, none⟩ = some (.int .i64 q1.ce) := (blk_cell HD1.out.1.1 2).trans rfl
  subst hk
  rw [hc0] at y1
  clear hc0
  obtain ⟨Wm, hWm⟩ : ∃ X, W1.alloc (.cells #[.int .i64 0, .bool false, .int .i64 0, .int .i64 0, .int .i64 0, .int .i64 0, .int .i64 0, .int .i64 0, .int .i64 0, .bool false, .bool false, .int .i64 0, .int .i64 0, .int .i64 0, .int .i64 0, .int .i64 0, .int .i64 0, .slice none 0 0, .string ⟨#[]⟩] 30) = X := ⟨_, rfl⟩
  have hbm := below_alloc (Below.refl W1.heap.size W1) (.cells #[.int .i64 0, .bool false, .int .i64 0, .int .i64 0, .int .i64 0, .int .i64 0, .int .i64 0, .int .i64 0, .int .i64 0, .bool false, .bool false, .int .i64 0, .int .i64 0, .int .i64 0, .int .i64 0, .int .i64 0, .int .i64 0, .slice none 0 0, .string ⟨#[]⟩] 30)
  rw [hWm] at hbm
  have HDm := Lib.hid (HD1.out.below hbm)
  have HRm := Lib.hid (blk_below HR1.out hbm)
  have HMm := Lib.hid (show Wm.heap[W1.heap.size]? = some (.cells #[.int .i64 0, .bool false, .int .i64 0, .int .i64 0, .int .i64 0, .int .i64 0, .int .i64 0, .int .i64 0, .int .i64 0, .bool false, .bool false, .int .i64 0, .int .i64 0, .int .i64 0, .int .i64 0, .int .i64 0, .int .i64 0, .slice none 0 0, .string ⟨#[]⟩] 30 (0, 0)) from by rw [← hWm]; exact heap_alloc_new W1 _)
  have hc9 := HD1.out.lt
  have nmc : W1.heap.size ≠ (W.heap.size + 1) := by omega
  have nmr : W.heap.size ≠ W1.heap.size := by omega
  have hmg : W.heap.size + 1 < W1.heap.size := by omega
  go_upto_region 6 with (fail)
  try rw [hWm]
  clear hWm hbm hc9 y1 HD1 HR1
  obtain ⟨mb, hmb⟩ : ∃ x, W1.heap.size = x := ⟨_, rfl⟩
  rw [hmb] at HMm nmc nmr hmg ⊢
  clear hmb
  go_wp2_with fail
  refine (rbytes_k W (W.heap.size + 1) q1 3 b q2 Wm HDm.out O1.out  E1.out).mono ?_
  rintro en W2 ⟨rfl, h1, hk⟩
  have HD2 := Lib.hid h1
  have HR2 := Lib.hid (hk.blk HRm.out nrc)
  have HM2 := Lib.hid (hk.blk HMm.out nmc)
  clear h1 hk
  have y2 : W2.cell? ⟨(W.heap.size + 1), 2, none⟩ = some (.int .i64 q2.ce) := (blk_cell HD2.out.1.1 2).trans rfl
  go_wp2_with fail
  refine (rbytes_k W (W.heap.size + 1) q2 16 t q3 W2 HD2.out O2.out  E2.out).mono ?_
  rintro en W3 ⟨rfl, h1, hk⟩
  have HD3 := Lib.hid h1
  have HR3 := Lib.hid (hk.blk HR2.out nrc)
  have HM3 := Lib.hid (hk.blk HM2.out nmc)
  clear h1 hk
  have y3 : W3.cell? ⟨(W.heap.size + 1), 2, none⟩ = some (.int .i64 q3.ce) := (blk_cell HD3.out.1.1 2).trans rfl
  clear y2
  rw [hq] at y3
  have EF := Lib.hid ef
  clear ef
  go_wp2_with fail
  refine (miradorref13_Parse.calls 40 t g0 g1 g2 g3 g4 g5 g6 g7 g8 g9 ge _ EF.out).mono ?_
  rintro en Wp ⟨rfl, hb⟩
  have hbf := below_alloc (Below.refl Wp.heap.size Wp) (.cells #[.int .i64 0, .int .i64 0, .bool false, .bool false, .int .i64 0, .int .i64 0, .int .i64 0, .int .i64 0, .int .i64 0, .int .i64 0] 27)
  have hrf : X.rowAt (Wp.alloc (.cells #[.int .i64 0, .int .i64 0, .bool false, .bool false, .int .i64 0, .int .i64 0, .int .i64 0, .int .i64 0, .int .i64 0, .int .i64 0] 27)) Wp.heap.size 27 10 = true := X.rowAt_of (heap_alloc_new Wp _) rfl
  obtain ⟨Wf, hV⟩ : ∃ X, (Wp.alloc (.cells #[.int .i64 0, .int .i64 0, .bool false, .bool false, .int .i64 0, .int .i64 0, .int .i64 0, .int .i64 0, .int .i64 0, .int .i64 0] 27)).setRow Wp.heap.size #[.int .i64 g0, .int .i64 g1, .bool g2, .bool g3, .int .i64 g4, .int .i64 g5, .int .i64 g6, .int .i64 g7, .int .i64 g8, .int .i64 g9] = X := ⟨_, rfl⟩
  have hbn := X.below_row (g := Wp.heap.size) hbf (Nat.le_refl _) #[.int .i64 g0, .int .i64 g1, .bool g2, .bool g3, .int .i64 g4, .int .i64 g5, .int .i64 g6, .int .i64 g7, .int .i64 g8, .int .i64 g9]
  rw [hV] at hbn
  have HFf := Lib.hid (show Wf.heap[Wp.heap.size]? = some (.cells #[.int .i64 g0, .int .i64 g1, .bool g2, .bool g3, .int .i64 g4, .int .i64 g5, .int .i64 g6, .int .i64 g7, .int .i64 g8, .int .i64 g9] 27 (0, 0)) from by rw [← hV]; exact setRow_heap _ _ _ _ _ _ (heap_alloc_new Wp _))
  have HRf := Lib.hid (blk_below (blk_below HR3.out hb) hbn)
  have HMf := Lib.hid (blk_below (blk_below HM3.out hb) hbn)
  have HDf := Lib.hid ((HD3.out.below hb).below hbn)
  go_upto_region 13 with (fail)
  try rw [hV]
  clear hV hrf hbf hbn hb y3 HR3 HM3 HD3
  have dg : (ge != 0) = true := by simpa using hg
  clear hg
  have hst : X.rowAt Wf W.heap.size 30 19 = true := X.rowAt_of HRf.out rfl
  have HYz := Lib.hid (setRow_heap Wf W.heap.size _ #[.int .i64 0, .bool false, .int .i64 0, .int .i64 0, .int .i64 0, .int .i64 0, .int .i64 0, .int .i64 0, .int .i64 0, .bool false, .bool false, .int .i64 0, .int .i64 0, .int .i64 0, .int .i64 0, .int .i64 0, .int .i64 0, .slice none 0 0, .string ⟨#[]⟩] _ _ HRf.out)
  have HBz := Lib.hid (X.below_row HDf.out.low (Nat.le_refl _) #[.int .i64 0, .bool false, .int .i64 0, .int .i64 0, .int .i64 0, .int .i64 0, .int .i64 0, .int .i64 0, .int .i64 0, .bool false, .bool false, .int .i64 0, .int .i64 0, .int .i64 0, .int .i64 0, .int .i64 0, .int .i64 0, .slice none 0 0, .string ⟨#[]⟩])
  go_wp2_with fail
  have hres := HRES.out
  simp only [Prod.mk.injEq] at hres
  obtain ⟨rfl, rfl, rfl, rfl, rfl, rfl, rfl, rfl, rfl, rfl, rfl, rfl, rfl, rfl, rfl, rfl, rfl, rfl, rfl, rfl, rfl⟩ := hres
  refine bodyPost_ret (results_ctt rfl _ _ W.heap.size 30 #[.int .i64 0, .bool false, .int .i64 0, .int .i64 0, .int .i64 0, .int .i64 0, .int .i64 0, .int .i64 0, .int .i64 0, .bool false, .bool false, .int .i64 0, .int .i64 0, .int .i64 0, .int .i64 0, .int .i64 0, .int .i64 0, .slice none 0 0, .string ⟨#[]⟩] (0, 0) _ rfl (by with_reducible exact HYz.out) Try.underlying30 rfl (by kernel_rfl)) rfl ?_
  exact ⟨_, rfl, Kd.R_of_own (enc := Value.int .i64) (World.ownsRow_nil _ _ _ _) (fun _ _ => trivial), HBz.out⟩
set_option maxHeartbeats 8000000 in
set_option maxRecDepth 100000 in
theorem dp_0c (s : ByteArray) (W : World) (o0 : Ok ⟨s, 0, 0⟩) (k : Int) (q1 : CS) (e0 : intC ⟨s, 0, 0⟩ 1 = some (k, q1)) (o1 : Ok q1) (b : ByteArray) (q2 : CS) (e1 : bytesC q1 3 = some (b, q2)) (o2 : Ok q2) (t : ByteArray) (q3 : CS) (e2 : bytesC q2 16 = some (t, q3)) (o3 : Ok q3) (hc0 : q1.ce = 0) (hk : k = 0) (hq : q3.ce = 0) (g0 : Int) (g1 : Int) (g2 : Bool) (g3 : Bool) (g4 : Int) (g5 : Int) (g6 : Int) (g7 : Int) (g8 : Int) (g9 : Int) (ge : Int) (ef : miradorref13_Parse.f 40 t = some (g0, g1, g2, g3, g4, g5, g6, g7, g8, g9, ge)) (hg : ge = 0) (r0 : Int) (r1 : Bool) (r2 : Int) (r3 : Int) (r4 : Int) (r5 : Int) (r6 : Int) (r7 : Int) (r8 : Int) (r9 : Bool) (r10 : Bool) (r11 : Int) (r12 : Int) (r13 : Int) (r14 : Int) (r15 : Int) (r16 : Int) (r17 : List Int) (r18 : ByteArray) (n e : Int) (hres : (if q3.ce = 0 then (0, false, 0, 0, 0, 0, 0, g0, g1, g2, g3, g4, g5, g6, g7, g8, g9, [], ⟨#[]⟩, q3.at_, 0) else (0, false, 0, 0, 0, 0, 0, 0, 0, false, false, 0, 0, 0, 0, 0, 0, [], ⟨#[]⟩, 0, q3.ce)) = (r0, r1, r2, r3, r4, r5, r6, r7, r8, r9, r10, r11, r12, r13, r14, r15, r16, r17, r18, n, e)) :
    Calls Try.prog 9 #[.string s] W fun en w' => ∃ v0_ : Value, en = .returned (.tuple #[.agg #[.int .i64 r0, .bool r1, .int .i64 r2, .int .i64 r3, .int .i64 r4, .int .i64 r5, .int .i64 r6, .int .i64 r7, .int .i64 r8, .bool r9, .bool r10, .int .i64 r11, .int .i64 r12, .int .i64 r13, .int .i64 r14, .int .i64 r15, .int .i64 r16, v0_, .string r18], .int .i64 n, .int .i64 e]) ∧ Kd.R (Kd.int .i64) 3 w' W.heap.size (fun _ => True) v0_ r17 ∧ Below W.heap.size W w' := by
  have E0 := Lib.hid e0
  have E1 := Lib.hid e1
  have E2 := Lib.hid e2
  have O0 := Lib.hid o0
  have O1 := Lib.hid o1
  have O2 := Lib.hid o2
  have O3 := Lib.hid o3
  have HRES := Lib.hid hres
  clear hres e0 e1 e2 o0 o1 o2 o3
  obtain ⟨Wa, hWa⟩ : ∃ X, (W.alloc (.cells #[.int .i64 0, .bool false, .int .i64 0, .int .i64 0, .int .i64 0, .int .i64 0, .int .i64 0, .int .i64 0, .int .i64 0, .bool false, .bool false, .int .i64 0, .int .i64 0, .int .i64 0, .int .i64 0, .int .i64 0, .int .i64 0, .slice none 0 0, .string ⟨#[]⟩] 30)).alloc (.cells #[.string s, .int .i64 0, .int .i64 0] 58) = X := ⟨_, rfl⟩
  have HRa := Lib.hid (show Wa.heap[W.heap.size]? = some (.cells #[.int .i64 0, .bool false, .int .i64 0, .int .i64 0, .int .i64 0, .int .i64 0, .int .i64 0, .int .i64 0, .int .i64 0, .bool false, .bool false, .int .i64 0, .int .i64 0, .int .i64 0, .int .i64 0, .int .i64 0, .int .i64 0, .slice none 0 0, .string ⟨#[]⟩] 30 (0, 0)) from by rw [← hWa]; exact (Below.heap_alloc _ _ _ (by simp)).trans (heap_alloc_new W _))
  have HDa := Lib.hid (show Du W (W.heap.size + 1) ⟨s, 0, 0⟩ Wa from by rw [← hWa]; exact ⟨⟨by have h0 := heap_alloc_new (W.alloc (.cells #[.int .i64 0, .bool false, .int .i64 0, .int .i64 0, .int .i64 0, .int .i64 0, .int .i64 0, .int .i64 0, .int .i64 0, .bool false, .bool false, .int .i64 0, .int .i64 0, .int .i64 0, .int .i64 0, .int .i64 0, .int .i64 0, .slice none 0 0, .string ⟨#[]⟩] 30)) (.cells #[.string s, .int .i64 0, .int .i64 0] 58); rwa [World.size_alloc] at h0, Nat.le_succ _⟩, below_alloc (below_alloc (Below.refl _ _) _) _⟩)
  have nrc : W.heap.size ≠ (W.heap.size + 1) := by omega
  go_enter Try.func9, Try.ntmps9
  go_upto_region 2 with (fail)
  try rw [hWa]
  clear hWa
  go_wp2_with fail
  refine (rint_k W (W.heap.size + 1) ⟨s, 0, 0⟩ 1 k q1 Wa HDa.out O0.out (by first | exact .inl rfl | exact .inr (.inl rfl) | exact .inr (.inr rfl)) E0.out).mono ?_
  rintro en W1 ⟨rfl, h1, hk⟩
  have HD1 := Lib.hid h1
  have HR1 := Lib.hid (hk.blk HRa.out nrc)
  clear h1 hk
  have y1 : W1.cell? ⟨(W.heap.size + 1), 2, none⟩ = some (.int .i64 q1.ce) := (blk_cell HD1.out.1.1 2).trans rfl
  subst hk
  rw [hc0] at y1
  clear hc0
  obtain ⟨Wm, hWm⟩ : ∃ X, W1.alloc (.cells #[.int .i64 0, .bool false, .int .i64 0, .int .i64 0, .int .i64 0, .int .i64 0, .int .i64 0, .int .i64 0, .int .i64 0, .bool false, .bool false, .int .i64 0, .int .i64 0, .int .i64 0, .int .i64 0, .int .i64 0, .int .i64 0, .slice none 0 0, .string ⟨#[]⟩] 30) = X := ⟨_, rfl⟩
  have hbm := below_alloc (Below.refl W1.heap.size W1) (.cells #[.int .i64 0, .bool false, .int .i64 0, .int .i64 0, .int .i64 0, .int .i64 0, .int .i64 0, .int .i64 0, .int .i64 0, .bool false, .bool false, .int .i64 0, .int .i64 0, .int .i64 0, .int .i64 0, .int .i64 0, .int .i64 0, .slice none 0 0, .string ⟨#[]⟩] 30)
  rw [hWm] at hbm
  have HDm := Lib.hid (HD1.out.below hbm)
  have HRm := Lib.hid (blk_below HR1.out hbm)
  have HMm := Lib.hid (show Wm.heap[W1.heap.size]? = some (.cells #[.int .i64 0, .bool false, .int .i64 0, .int .i64 0, .int .i64 0, .int .i64 0, .int .i64 0, .int .i64 0, .int .i64 0, .bool false, .bool false, .int .i64 0, .int .i64 0, .int .i64 0, .int .i64 0, .int .i64 0, .int .i64 0, .slice none 0 0, .string ⟨#[]⟩] 30 (0, 0)) from by rw [← hWm]; exact heap_alloc_new W1 _)
  have hc9 := HD1.out.lt
  have nmc : W1.heap.size ≠ (W.heap.size + 1) := by omega
  have nmr : W.heap.size ≠ W1.heap.size := by omega
  have hmg : W.heap.size + 1 < W1.heap.size := by omega
  go_upto_region 6 with (fail)
  try rw [hWm]
  clear hWm hbm hc9 y1 HD1 HR1
  obtain ⟨mb, hmb⟩ : ∃ x, W1.heap.size = x := ⟨_, rfl⟩
  rw [hmb] at HMm nmc nmr hmg ⊢
  clear hmb
  go_wp2_with fail
  refine (rbytes_k W (W.heap.size + 1) q1 3 b q2 Wm HDm.out O1.out  E1.out).mono ?_
  rintro en W2 ⟨rfl, h1, hk⟩
  have HD2 := Lib.hid h1
  have HR2 := Lib.hid (hk.blk HRm.out nrc)
  have HM2 := Lib.hid (hk.blk HMm.out nmc)
  clear h1 hk
  have y2 : W2.cell? ⟨(W.heap.size + 1), 2, none⟩ = some (.int .i64 q2.ce) := (blk_cell HD2.out.1.1 2).trans rfl
  go_wp2_with fail
  refine (rbytes_k W (W.heap.size + 1) q2 16 t q3 W2 HD2.out O2.out  E2.out).mono ?_
  rintro en W3 ⟨rfl, h1, hk⟩
  have HD3 := Lib.hid h1
  have HR3 := Lib.hid (hk.blk HR2.out nrc)
  have HM3 := Lib.hid (hk.blk HM2.out nmc)
  clear h1 hk
  have y3 : W3.cell? ⟨(W.heap.size + 1), 2, none⟩ = some (.int .i64 q3.ce) := (blk_cell HD3.out.1.1 2).trans rfl
  clear y2
  rw [hq] at y3
  have EF := Lib.hid ef
  clear ef
  go_wp2_with fail
  refine (miradorref13_Parse.calls 40 t g0 g1 g2 g3 g4 g5 g6 g7 g8 g9 ge _ EF.out).mono ?_
  rintro en Wp ⟨rfl, hb⟩
  have hbf := below_alloc (Below.refl Wp.heap.size Wp) (.cells #[.int .i64 0, .int .i64 0, .bool false, .bool false, .int .i64 0, .int .i64 0, .int .i64 0, .int .i64 0, .int .i64 0, .int .i64 0] 27)
  have hrf : X.rowAt (Wp.alloc (.cells #[.int .i64 0, .int .i64 0, .bool false, .bool false, .int .i64 0, .int .i64 0, .int .i64 0, .int .i64 0, .int .i64 0, .int .i64 0] 27)) Wp.heap.size 27 10 = true := X.rowAt_of (heap_alloc_new Wp _) rfl
  obtain ⟨Wf, hV⟩ : ∃ X, (Wp.alloc (.cells #[.int .i64 0, .int .i64 0, .bool false, .bool false, .int .i64 0, .int .i64 0, .int .i64 0, .int .i64 0, .int .i64 0, .int .i64 0] 27)).setRow Wp.heap.size #[.int .i64 g0, .int .i64 g1, .bool g2, .bool g3, .int .i64 g4, .int .i64 g5, .int .i64 g6, .int .i64 g7, .int .i64 g8, .int .i64 g9] = X := ⟨_, rfl⟩
  have hbn := X.below_row (g := Wp.heap.size) hbf (Nat.le_refl _) #[.int .i64 g0, .int .i64 g1, .bool g2, .bool g3, .int .i64 g4, .int .i64 g5, .int .i64 g6, .int .i64 g7, .int .i64 g8, .int .i64 g9]
  rw [hV] at hbn
  have HFf := Lib.hid (show Wf.heap[Wp.heap.size]? = some (.cells #[.int .i64 g0, .int .i64 g1, .bool g2, .bool g3, .int .i64 g4, .int .i64 g5, .int .i64 g6, .int .i64 g7, .int .i64 g8, .int .i64 g9] 27 (0, 0)) from by rw [← hV]; exact setRow_heap _ _ _ _ _ _ (heap_alloc_new Wp _))
  have HRf := Lib.hid (blk_below (blk_below HR3.out hb) hbn)
  have HMf := Lib.hid (blk_below (blk_below HM3.out hb) hbn)
  have HDf := Lib.hid ((HD3.out.below hb).below hbn)
  go_upto_region 13 with (fail)
  try rw [hV]
  clear hV hrf hbf hbn hb y3 HR3 HM3 HD3
  subst hg
  have f1 : X.rowAt Wf Wp.heap.size 27 10 = true := X.rowAt_of HFf.out rfl
  have f2 : X.cellsAt Wf Wp.heap.size = #[.int .i64 g0, .int .i64 g1, .bool g2, .bool g3, .int .i64 g4, .int .i64 g5, .int .i64 g6, .int .i64 g7, .int .i64 g8, .int .i64 g9] := X.cellsAt_of HFf.out
  have f3 : X.rowAt Wf mb 30 19 = true := X.rowAt_of HMf.out rfl
  obtain ⟨Wh, hV⟩ : ∃ X, Wf.setRow mb #[.int .i64 0, .bool false, .int .i64 0, .int .i64 0, .int .i64 0, .int .i64 0, .int .i64 0, .int .i64 g0, .int .i64 g1, .bool g2, .bool g3, .int .i64 g4, .int .i64 g5, .int .i64 g6, .int .i64 g7, .int .i64 g8, .int .i64 g9, .slice none 0 0, .string ⟨#[]⟩] = X := ⟨_, rfl⟩
  have HMh := Lib.hid (show Wh.heap[mb]? = some (.cells #[.int .i64 0, .bool false, .int .i64 0, .int .i64 0, .int .i64 0, .int .i64 0, .int .i64 0, .int .i64 g0, .int .i64 g1, .bool g2, .bool g3, .int .i64 g4, .int .i64 g5, .int .i64 g6, .int .i64 g7, .int .i64 g8, .int .i64 g9, .slice none 0 0, .string ⟨#[]⟩] 30 (0, 0)) from by rw [← hV]; exact setRow_heap _ _ _ _ _ _ HMf.out)
  have HRh := Lib.hid (show Wh.heap[W.heap.size]? = some (.cells #[.int .i64 0, .bool false, .int .i64 0, .int .i64 0, .int .i64 0, .int .i64 0, .int .i64 0, .int .i64 0, .int .i64 0, .bool false, .bool false, .int .i64 0, .int .i64 0, .int .i64 0, .int .i64 0, .int .i64 0, .int .i64 0, .slice none 0 0, .string ⟨#[]⟩] 30 (0, 0)) from by rw [← hV]; exact (setRow_other _ _ _ _ nmr).trans HRf.out)
  have HDh := Lib.hid (show Du W (W.heap.size + 1) q3 Wh from by rw [← hV]; exact HDf.out.row nmc (by omega) _)
  go_upto_region 50 with (fail)
  try rw [hV]
  clear hV f1 f2 f3 HMf HRf HDf HFf
  have yh : Wh.cell? ⟨(W.heap.size + 1), 2, none⟩ = some (.int .i64 q3.ce) := (blk_cell HDh.out.1.1 2).trans rfl
  have hc := hq
  have HRES := Lib.hid (show _ = _ from (if_pos hc).symm.trans HRES.out)
  rw [hc] at yh
  have yd1 : Wh.drew.cell? ⟨(W.heap.size + 1), 1, none⟩ = some (.int .i64 q3.at_) := (blk_cell HDh.out.1.1 1).trans rfl
  have yd2 : X.rowAt Wh.drew mb 30 19 = true := X.rowAt_of (blk_drew HMh.out) rfl
  have yd3 : X.cellsAt Wh.drew mb = #[.int .i64 0, .bool false, .int .i64 0, .int .i64 0, .int .i64 0, .int .i64 0, .int .i64 0, .int .i64 g0, .int .i64 g1, .bool g2, .bool g3, .int .i64 g4, .int .i64 g5, .int .i64 g6, .int .i64 g7, .int .i64 g8, .int .i64 g9, .slice none 0 0, .string ⟨#[]⟩] := X.cellsAt_of (blk_drew HMh.out)
  have hst : X.rowAt Wh.drew W.heap.size 30 19 = true := X.rowAt_of (blk_drew HRh.out) rfl
  have kp := kp52 (blk_drew HDh.out.1.1) (blk_drew HMh.out) rfl (Ne.symm nrc) (Ne.symm nmr) #[.int .i64 0, .bool false, .int .i64 0, .int .i64 0, .int .i64 0, .int .i64 0, .int .i64 0, .int .i64 g0, .int .i64 g1, .bool g2, .bool g3, .int .i64 g4, .int .i64 g5, .int .i64 g6, .int .i64 g7, .int .i64 g8, .int .i64 g9, .slice none 0 0, .string ⟨#[]⟩]
  go_upto_region 52 with (fail)
  go_cut [3, 4] (fun s3 s4 wx => s3 = .int .i64 (q3.at_) ∧ s4 = .int .i64 (0) ∧ Hid (wx.heap[W.heap.size]? = some (.cells #[.int .i64 0, .bool false, .int .i64 0, .int .i64 0, .int .i64 0, .int .i64 0, .int .i64 0, .int .i64 g0, .int .i64 g1, .bool g2, .bool g3, .int .i64 g4, .int .i64 g5, .int .i64 g6, .int .i64 g7, .int .i64 g8, .int .i64 g9, .slice none 0 0, .string ⟨#[]⟩] 30 (0, 0))) ∧ Hid (Below W.heap.size W wx))
  case first =>
    go_region_held3 (fun w' => w'.cell? ⟨(W.heap.size + 1), 1, none⟩ = some (.int .i64 q3.at_) ∧ X.rowAt w' mb 30 19 = true ∧ X.cellsAt w' mb = #[.int .i64 0, .bool false, .int .i64 0, .int .i64 0, .int .i64 0, .int .i64 0, .int .i64 0, .int .i64 g0, .int .i64 g1, .bool g2, .bool g3, .int .i64 g4, .int .i64 g5, .int .i64 g6, .int .i64 g7, .int .i64 g8, .int .i64 g9, .slice none 0 0, .string ⟨#[]⟩]) (first | go_keep | exact kp) (fail)
    all_goals
      go_wp2_with fail
      go_meet
      exact ⟨rfl, rfl, Lib.hid (by first | exact setRow_heap _ _ _ _ _ _ (blk_drew HRh.out) | exact setRow_heap _ _ _ _ _ _ HRh.out), Lib.hid (by first | exact X.below_row (Below.drew HDh.out.low) (Nat.le_refl _) _ | exact X.below_row HDh.out.low (Nat.le_refl _) _)⟩
  case rest =>
    obtain ⟨rfl, rfl, HYz, HBz⟩ := hcut
    clear hst kp yd1 yd2 yd3
    go_wp2_with fail
    have hres := HRES.out
    simp only [Prod.mk.injEq] at hres
    obtain ⟨rfl, rfl, rfl, rfl, rfl, rfl, rfl, rfl, rfl, rfl, rfl, rfl, rfl, rfl, rfl, rfl, rfl, rfl, rfl, rfl, rfl⟩ := hres
    refine bodyPost_ret (results_ctt rfl _ _ W.heap.size 30 #[.int .i64 0, .bool false, .int .i64 0, .int .i64 0, .int .i64 0, .int .i64 0, .int .i64 0, .int .i64 g0, .int .i64 g1, .bool g2, .bool g3, .int .i64 g4, .int .i64 g5, .int .i64 g6, .int .i64 g7, .int .i64 g8, .int .i64 g9, .slice none 0 0, .string ⟨#[]⟩] (0, 0) _ rfl (by with_reducible exact HYz.out) Try.underlying30 rfl (by kernel_rfl)) rfl ?_
    exact ⟨_, rfl, Kd.R_of_own (enc := Value.int .i64) (World.ownsRow_nil _ _ _ _) (fun _ _ => trivial), HBz.out⟩
theorem dp_cut {W X w2 : World} {mb k gg cap : Nat} {v : Value} {q : CS} {xs : List Int} {x : Int} (hD : Du W (W.heap.size + 1) q X) (hy : X.heap[W.heap.size]? = some (.cells #[.int .i64 0, .bool false, .int .i64 0, .int .i64 0, .int .i64 0, .int .i64 0, .int .i64 0, .int .i64 0, .int .i64 0, .bool false, .bool false, .int .i64 0, .int .i64 0, .int .i64 0, .int .i64 0, .int .i64 0, .int .i64 0, .slice none 0 0, .string ⟨#[]⟩] 30 (0, 0))) (hz : X.heap[mb]? = some (.cells #[.int .i64 1, .bool false, .int .i64 0, .int .i64 0, .int .i64 0, .int .i64 0, .int .i64 0, .int .i64 0, .int .i64 0, .bool false, .bool false, .int .i64 0, .int .i64 0, .int .i64 0, .int .i64 0, .int .i64 0, .int .i64 0, v, .string ⟨#[]⟩] 30 (0, 0))) (hO : X.ownsRow (mb + 1) 3 1 v k (xs.map (Value.int .i64))) (hown : w2.ownsRow (mb + 1) 3 1 (.slice (some ⟨gg, 0, none⟩) (k + 1) cap) (k + 1) (xs.map (Value.int .i64) ++ [.int .i64 x])) (hgrow : (X.alloc (.cells #[.int .i64 x] 3)).grownBy w2 v.ownBlock) (hm : W.heap.size + 1 < mb) :
    ∃ A' c', Hid ((w2.setCell ⟨mb, 17, none⟩ (.slice (some ⟨gg, 0, none⟩) (k + 1) cap)).heap[W.heap.size]? = some (.cells #[.int .i64 0, .bool false, .int .i64 0, .int .i64 0, .int .i64 0, .int .i64 0, .int .i64 0, .int .i64 0, .int .i64 0, .bool false, .bool false, .int .i64 0, .int .i64 0, .int .i64 0, .int .i64 0, .int .i64 0, .int .i64 0, .slice none 0 0, .string ⟨#[]⟩] 30 (0, 0))) ∧ Hid ((w2.setCell ⟨mb, 17, none⟩ (.slice (some ⟨gg, 0, none⟩) (k + 1) cap)).heap[mb]? = some (.cells #[.int .i64 1, .bool false, .int .i64 0, .int .i64 0, .int .i64 0, .int .i64 0, .int .i64 0, .int .i64 0, .int .i64 0, .bool false, .bool false, .int .i64 0, .int .i64 0, .int .i64 0, .int .i64 0, .int .i64 0, .int .i64 0, .slice A' (k + 1) c', .string ⟨#[]⟩] 30 (0, 0))) ∧ Hid ((w2.setCell ⟨mb, 17, none⟩ (.slice (some ⟨gg, 0, none⟩) (k + 1) cap)).ownsRow (mb + 1) 3 1 (.slice A' (k + 1) c') (k + 1) ((xs ++ [x]).map (Value.int .i64))) ∧ Hid (Du W (W.heap.size + 1) q (w2.setCell ⟨mb, 17, none⟩ (.slice (some ⟨gg, 0, none⟩) (k + 1) cap))) := by
  have hX : Below X.heap.size X (X.alloc (.cells #[.int .i64 x] 3)) := below_alloc (Below.refl _ _) _
  have hrow : ∀ j, v.ownBlock = some j → mb + 1 ≤ j := fun j hj => own_base hO j hj
  have n1 := own_ne_ hO (show W.heap.size < mb + 1 by omega)
  have n2 := own_ne_ hO (show mb < mb + 1 by omega)
  have n3 := own_ne_ hO (show W.heap.size + 1 < mb + 1 by omega)
  have h1 := (hgrow.block _ (blk_lt (blk_below hy hX)) n1).trans (blk_below hy hX)
  have h2 := (hgrow.block _ (blk_lt (blk_below hz hX)) n2).trans (blk_below hz hX)
  refine ⟨some ⟨gg, 0, none⟩, cap, Lib.hid (blk_far h1 (by show W.heap.size ≠ mb; omega) _), Lib.hid (blk_put h2 17 _ rfl), Lib.hid ?_, Lib.hid (((hD.below hX).grown hgrow n3 (fun j hj => by have := hrow j hj; omega)).far (p := ⟨mb, 17, none⟩) (by show mb ≠ W.heap.size + 1; omega) (by show W.heap.size ≤ mb; omega) _)⟩
  rw [List.map_append]
  exact own_kept hown (Kept.setCell (S := fun j => j = mb) (p := ⟨mb, 17, none⟩) (Kept.refl w2 _) (.inl rfl) _) (fun j hj e => by omega)
set_option maxHeartbeats 8000000 in
set_option maxRecDepth 100000 in
theorem dp_2 (s : ByteArray) (W : World) (o0 : Ok ⟨s, 0, 0⟩) (k : Int) (q1 : CS) (e0 : intC ⟨s, 0, 0⟩ 1 = some (k, q1)) (o1 : Ok q1) (b : ByteArray) (q2 : CS) (e1 : bytesC q1 1 = some (b, q2)) (o2 : Ok q2) (x : Int) (q3 : CS) (e2 : intC q2 2 = some (x, q3)) (o3 : Ok q3) (hc0 : q1.ce = 0) (hk : k = 2) (hx : ¬ (x > 256)) (hx0 : 0 ≤ x) (ys : List Int) (ql : CS) (el : encsL x.toNat q3 = some (ys, ql)) (ok : Ok ql) (r0 : Int) (r1 : Bool) (r2 : Int) (r3 : Int) (r4 : Int) (r5 : Int) (r6 : Int) (r7 : Int) (r8 : Int) (r9 : Bool) (r10 : Bool) (r11 : Int) (r12 : Int) (r13 : Int) (r14 : Int) (r15 : Int) (r16 : Int) (r17 : List Int) (r18 : ByteArray) (n e : Int) (hres : (if ql.ce = 0 then (1, false, 0, 0, 0, 0, 0, 0, 0, false, false, 0, 0, 0, 0, 0, 0, ys, ⟨#[]⟩, ql.at_, 0) else (0, false, 0, 0, 0, 0, 0, 0, 0, false, false, 0, 0, 0, 0, 0, 0, [], ⟨#[]⟩, 0, ql.ce)) = (r0, r1, r2, r3, r4, r5, r6, r7, r8, r9, r10, r11, r12, r13, r14, r15, r16, r17, r18, n, e)) :
    Calls Try.prog 9 #[.string s] W fun en w' => ∃ v0_ : Value, en = .returned (.tuple #[.agg #[.int .i64 r0, .bool r1, .int .i64 r2, .int .i64 r3, .int .i64 r4, .int .i64 r5, .int .i64 r6, .int .i64 r7, .int .i64 r8, .bool r9, .bool r10, .int .i64 r11, .int .i64 r12, .int .i64 r13, .int .i64 r14, .int .i64 r15, .int .i64 r16, v0_, .string r18], .int .i64 n, .int .i64 e]) ∧ Kd.R (Kd.int .i64) 3 w' W.heap.size (fun _ => True) v0_ r17 ∧ Below W.heap.size W w' := by
  have E0 := Lib.hid e0
  have E1 := Lib.hid e1
  have E2 := Lib.hid e2
  have O0 := Lib.hid o0
  have O1 := Lib.hid o1
  have O2 := Lib.hid o2
  have O3 := Lib.hid o3
  have HRES := Lib.hid hres
  clear hres e0 e1 e2 o0 o1 o2 o3
  obtain ⟨Wa, hWa⟩ : ∃ X, (W.alloc (.cells #[.int .i64 0, .bool false, .int .i64 0, .int .i64 0, .int .i64 0, .int .i64 0, .int .i64 0, .int .i64 0, .int .i64 0, .bool false, .bool false, .int .i64 0, .int .i64 0, .int .i64 0, .int .i64 0, .int .i64 0, .int .i64 0, .slice none 0 0, .string ⟨#[]⟩] 30)).alloc (.cells #[.string s, .int .i64 0, .int .i64 0] 58) = X := ⟨_, rfl⟩
  have HRa := Lib.hid (show Wa.heap[W.heap.size]? = some (.cells #[.int .i64 0, .bool false, .int .i64 0, .int .i64 0, .int .i64 0, .int .i64 0, .int .i64 0, .int .i64 0, .int .i64 0, .bool false, .bool false, .int .i64 0, .int .i64 0, .int .i64 0, .int .i64 0, .int .i64 0, .int .i64 0, .slice none 0 0, .string ⟨#[]⟩] 30 (0, 0)) from by rw [← hWa]; exact (Below.heap_alloc _ _ _ (by simp)).trans (heap_alloc_new W _))
  have HDa := Lib.hid (show Du W (W.heap.size + 1) ⟨s, 0, 0⟩ Wa from by rw [← hWa]; exact ⟨⟨by have h0 := heap_alloc_new (W.alloc (.cells #[.int .i64 0, .bool false, .int .i64 0, .int .i64 0, .int .i64 0, .int .i64 0, .int .i64 0, .int .i64 0, .int .i64 0, .bool false, .bool false, .int .i64 0, .int .i64 0, .int .i64 0, .int .i64 0, .int .i64 0, .int .i64 0, .slice none 0 0, .string ⟨#[]⟩] 30)) (.cells #[.string s, .int .i64 0, .int .i64 0] 58); rwa [World.size_alloc] at h0, Nat.le_succ _⟩, below_alloc (below_alloc (Below.refl _ _) _) _⟩)
  have nrc : W.heap.size ≠ (W.heap.size + 1) := by omega
  go_enter Try.func9, Try.ntmps9
  go_upto_region 2 with (fail)
  try rw [hWa]
  clear hWa
  go_wp2_with fail
  refine (rint_k W (W.heap.size + 1) ⟨s, 0, 0⟩ 1 k q1 Wa HDa.out O0.out (by first | exact .inl rfl | exact .inr (.inl rfl) | exact .inr (.inr rfl)) E0.out).mono ?_
  rintro en W1 ⟨rfl, h1, hk⟩
  have HD1 := Lib.hid h1
  have HR1 := Lib.hid (hk.blk HRa.out nrc)
  clear h1 hk
  have y1 : W1.cell? ⟨(W.heap.size + 1), 2, none⟩ = some (.int .i64 q1.ce) := (blk_cell HD1.out.1.1 2).trans rfl
  subst hk
  rw [hc0] at y1
  clear hc0
  obtain ⟨Wm, hWm⟩ : ∃ X, W1.alloc (.cells #[.int .i64 0, .bool false, .int .i64 0, .int .i64 0, .int .i64 0, .int .i64 0, .int .i64 0, .int .i64 0, .int .i64 0, .bool false, .bool false, .int .i64 0, .int .i64 0, .int .i64 0, .int .i64 0, .int .i64 0, .int .i64 0, .slice none 0 0, .string ⟨#[]⟩] 30) = X := ⟨_, rfl⟩
  have hbm := below_alloc (Below.refl W1.heap.size W1) (.cells #[.int .i64 0, .bool false, .int .i64 0, .int .i64 0, .int .i64 0, .int .i64 0, .int .i64 0, .int .i64 0, .int .i64 0, .bool false, .bool false, .int .i64 0, .int .i64 0, .int .i64 0, .int .i64 0, .int .i64 0, .int .i64 0, .slice none 0 0, .string ⟨#[]⟩] 30)
  rw [hWm] at hbm
  have HDm := Lib.hid (HD1.out.below hbm)
  have HRm := Lib.hid (blk_below HR1.out hbm)
  have HMm := Lib.hid (show Wm.heap[W1.heap.size]? = some (.cells #[.int .i64 0, .bool false, .int .i64 0, .int .i64 0, .int .i64 0, .int .i64 0, .int .i64 0, .int .i64 0, .int .i64 0, .bool false, .bool false, .int .i64 0, .int .i64 0, .int .i64 0, .int .i64 0, .int .i64 0, .int .i64 0, .slice none 0 0, .string ⟨#[]⟩] 30 (0, 0)) from by rw [← hWm]; exact heap_alloc_new W1 _)
  have hc9 := HD1.out.lt
  have nmc : W1.heap.size ≠ (W.heap.size + 1) := by omega
  have nmr : W.heap.size ≠ W1.heap.size := by omega
  have hmg : W.heap.size + 1 < W1.heap.size := by omega
  go_upto_region 6 with (fail)
  try rw [hWm]
  clear hWm hbm hc9 y1 HD1 HR1
  obtain ⟨mb, hmb⟩ : ∃ x, W1.heap.size = x := ⟨_, rfl⟩
  rw [hmb] at HMm nmc nmr hmg ⊢
  clear hmb
  obtain ⟨i0, hi, hz0, hz1, hz2⟩ := info_parts info3
  have HI := Lib.hid hi
  have HI0 := Lib.hid hz0
  have HI1 := Lib.hid hz1
  have HI2 := Lib.hid hz2
  clear hi hz0 hz1 hz2
  go_wp2_with fail
  refine (rbytes_k W (W.heap.size + 1) q1 1 b q2 Wm HDm.out O1.out  E1.out).mono ?_
  rintro en W2 ⟨rfl, h1, hk⟩
  have HD2 := Lib.hid h1
  have HR2 := Lib.hid (hk.blk HRm.out nrc)
  have HM2 := Lib.hid (hk.blk HMm.out nmc)
  clear h1 hk
  have y2 : W2.cell? ⟨(W.heap.size + 1), 2, none⟩ = some (.int .i64 q2.ce) := (blk_cell HD2.out.1.1 2).trans rfl
  go_wp2_with fail
  refine (rint_k W (W.heap.size + 1) q2 2 x q3 W2 HD2.out O2.out (by first | exact .inl rfl | exact .inr (.inl rfl) | exact .inr (.inr rfl)) E2.out).mono ?_
  rintro en W3 ⟨rfl, h1, hk⟩
  have HD3 := Lib.hid h1
  have HR3 := Lib.hid (hk.blk HR2.out nrc)
  have HM3 := Lib.hid (hk.blk HM2.out nmc)
  clear h1 hk
  have y3 : W3.cell? ⟨(W.heap.size + 1), 2, none⟩ = some (.int .i64 q3.ce) := (blk_cell HD3.out.1.1 2).trans rfl
  clear y2
  obtain ⟨m, rfl⟩ : ∃ m : Nat, x = (m : Int) := ⟨x.toNat, by omega⟩
  have EL := Lib.hid el
  have OK := Lib.hid ok
  rw [Int.toNat_natCast] at EL
  have dx : decide ((m : Int) > 256) = false := decide_eq_false (by omega)
  have dx2 : decide ((256 : Int) < (m : Int)) = false := decide_eq_false (by omega)
  have dx3 : decide (256 < m) = false := decide_eq_false (by omega)
  have HLEN := Lib.hid (encsL_len _ _ _ EL.out)
  have hm : m ≤ 256 := by omega
  clear hx hx0 el ok
  have fz : W3.frozen? ⟨mb, 0, none⟩ = false := blk_frozen HM3.out _
  have yz : W3.cell? ⟨mb, 0, none⟩ = some (.int .i64 0) := (blk_cell HM3.out 0).trans rfl
  obtain ⟨Wc, hV⟩ : ∃ X, W3.setCell ⟨mb, 0, none⟩ (.int .i64 1) = X := ⟨_, rfl⟩
  have HMc := Lib.hid (show Wc.heap[mb]? = some (.cells #[.int .i64 1, .bool false, .int .i64 0, .int .i64 0, .int .i64 0, .int .i64 0, .int .i64 0, .int .i64 0, .int .i64 0, .bool false, .bool false, .int .i64 0, .int .i64 0, .int .i64 0, .int .i64 0, .int .i64 0, .int .i64 0, .slice none 0 0, .string ⟨#[]⟩] 30 (0, 0)) from by rw [← hV]; exact blk_put HM3.out 0 _ rfl)
  have HRc := Lib.hid (show Wc.heap[W.heap.size]? = some (.cells #[.int .i64 0, .bool false, .int .i64 0, .int .i64 0, .int .i64 0, .int .i64 0, .int .i64 0, .int .i64 0, .int .i64 0, .bool false, .bool false, .int .i64 0, .int .i64 0, .int .i64 0, .int .i64 0, .int .i64 0, .int .i64 0, .slice none 0 0, .string ⟨#[]⟩] 30 (0, 0)) from by rw [← hV]; exact blk_far HR3.out (by exact nmr) _)
  have HDc := Lib.hid (show Du W (W.heap.size + 1) q3 Wc from by rw [← hV]; exact HD3.out.far (p := ⟨mb, 0, none⟩) (by exact nmc) (by show W.heap.size ≤ mb; omega) _)
  go_upto_region 22 with (fail)
  try rw [hV]
  clear hV fz yz HM3 HR3 HD3 y3
  go_wp2_with fail
  have HO0 := Lib.hid (World.ownsRow_nil Wc (mb + 1) 3 1)
  go_loopw [12] (fun i wr => ∃ (k : Nat) (A : Option Addr) (c : Nat) (xs zs : List Int) (qi : CS), k ≤ m ∧ i = .int .i64 k ∧ Hid (encsL (m - k) qi = some (zs, ql)) ∧ Hid (Ok qi) ∧ Hid (xs ++ zs = ys) ∧ Hid (wr.heap[W.heap.size]? = some (.cells #[.int .i64 0, .bool false, .int .i64 0, .int .i64 0, .int .i64 0, .int .i64 0, .int .i64 0, .int .i64 0, .int .i64 0, .bool false, .bool false, .int .i64 0, .int .i64 0, .int .i64 0, .int .i64 0, .int .i64 0, .int .i64 0, .slice none 0 0, .string ⟨#[]⟩] 30 (0, 0))) ∧ Hid (wr.heap[mb]? = some (.cells #[.int .i64 1, .bool false, .int .i64 0, .int .i64 0, .int .i64 0, .int .i64 0, .int .i64 0, .int .i64 0, .int .i64 0, .bool false, .bool false, .int .i64 0, .int .i64 0, .int .i64 0, .int .i64 0, .int .i64 0, .int .i64 0, .slice A k c, .string ⟨#[]⟩] 30 (0, 0))) ∧ Hid (wr.ownsRow (mb + 1) 3 1 (.slice A k c) k (xs.map (Value.int .i64))) ∧ Hid (Du W (W.heap.size + 1) qi wr)) (fun i _ => m - (intOf i).toNat)
  case atStart => exact ⟨0, none, 0, [], ys, q3, Nat.zero_le _, rfl, EL, O3, Lib.hid rfl, HRc, HMc, HO0, HDc⟩
  case round =>
    obtain ⟨k, A, c, xs, zs, qi, hk, rfl, HL, HQ, HZZ, HRr, HMr, HOr, HDr⟩ := hrel
    by_cases hlt : k < m
    · have hd := HL.out
      rw [show m - k = (m - (k + 1)) + 1 by omega] at hd
      simp only [encsL] at hd
      obtain ⟨⟨x, q4⟩, ex, hd⟩ := Option.bind_eq_some_iff.1 hd
      obtain ⟨⟨zs2, q5⟩, e2, e3⟩ := Option.map_eq_some_iff.1 hd
      obtain ⟨rfl, rfl⟩ : x :: zs2 = zs ∧ q5 = ql := by simpa using e3
      have EX := Lib.hid ex
      have HL2 := Lib.hid e2
      have HQ4 := Lib.hid (signed_step.good.of HQ.out ex).ok
      clear hd ex e2 e3
      have hlti : (k : Int) < (m : Int) := by omega
      have x0 : wr.cell? ⟨mb, 17, none⟩ = some (.slice A k c) := (blk_cell HMr.out 17).trans rfl
      go_upto_block 2 with (fail)
      go_cut [12] (fun s12 wx => s12 = .int .i64 k ∧ ∃ A' c', Hid (wx.heap[W.heap.size]? = some (.cells #[.int .i64 0, .bool false, .int .i64 0, .int .i64 0, .int .i64 0, .int .i64 0, .int .i64 0, .int .i64 0, .int .i64 0, .bool false, .bool false, .int .i64 0, .int .i64 0, .int .i64 0, .int .i64 0, .int .i64 0, .int .i64 0, .slice none 0 0, .string ⟨#[]⟩] 30 (0, 0))) ∧ Hid (wx.heap[mb]? = some (.cells #[.int .i64 1, .bool false, .int .i64 0, .int .i64 0, .int .i64 0, .int .i64 0, .int .i64 0, .int .i64 0, .int .i64 0, .bool false, .bool false, .int .i64 0, .int .i64 0, .int .i64 0, .int .i64 0, .int .i64 0, .int .i64 0, .slice A' (k + 1) c', .string ⟨#[]⟩] 30 (0, 0))) ∧ Hid (wx.ownsRow (mb + 1) 3 1 (.slice A' (k + 1) c') (k + 1) ((xs ++ [x]).map (Value.int .i64))) ∧ Hid (Du W (W.heap.size + 1) q4 wx))
      case first =>
        go_upto_region 25 with (fail)
        go_region_law (first | (refine step_append_lies _ rfl (.tmp 69) (.tmp 72) 28 rfl (mb + 1) 3 i0 (.int .i64 0) 1 8 Try.underlying28 HI.out HI0.out HI1.out HI2.out rfl (by decide) (.slice A k c) k (xs.map (Value.int .i64)) (by simp [Act.eval, Act.put]) (HO3.out.alloc _) ⟨V3.heap.size, 0, none⟩ 1 1 [.int .i64 x] (by simp [Act.eval, Act.put]) rfl (World.news_of_block (heap_alloc_new V3 _)) (by simp [Value.oneCell']) (by decide) (by unfold maxLen; omega) (by omega) (by have h9 := blk_lt HM3.out; simp; omega) _ rfl ?_; intro gg cap w2 hown hgrow hat hlt2; have hb2 := (hgrow.block _ (blk_lt (blk_below HM3.out (below_alloc (Below.refl _ _) _))) (own_ne_ HO3.out (show mb < mb + 1 by omega))).trans (blk_below HM3.out (below_alloc (Below.refl _ _) _)); have hc2 : w2.cell? ⟨mb, 17, none⟩ = some (.slice A k c) := (blk_cell hb2 17).trans rfl; have hf2 := blk_frozen hb2 17; have HOWN := Lib.hid hown; have HGROW := Lib.hid hgrow; clear hown hgrow hat hlt2 hb2) | (go_simp; go_at_call 23; refine (rsigned_k W (W.heap.size + 1) qi x q4 _ (by first | exact HDr.out | exact HDr.out.drew) HQ.out EX.out).mono ?_; rintro en V3 ⟨rfl, h1, hk⟩; have HD3 := Lib.hid h1; have HR3 := Lib.hid (show V3.heap[W.heap.size]? = some (.cells #[.int .i64 0, .bool false, .int .i64 0, .int .i64 0, .int .i64 0, .int .i64 0, .int .i64 0, .int .i64 0, .int .i64 0, .bool false, .bool false, .int .i64 0, .int .i64 0, .int .i64 0, .int .i64 0, .int .i64 0, .int .i64 0, .slice none 0 0, .string ⟨#[]⟩] 30 (0, 0)) from hk.blk HRr.out nrc); have HM3 := Lib.hid (show V3.heap[mb]? = some (.cells #[.int .i64 1, .bool false, .int .i64 0, .int .i64 0, .int .i64 0, .int .i64 0, .int .i64 0, .int .i64 0, .int .i64 0, .bool false, .bool false, .int .i64 0, .int .i64 0, .int .i64 0, .int .i64 0, .int .i64 0, .int .i64 0, .slice A k c, .string ⟨#[]⟩] 30 (0, 0)) from hk.blk HMr.out nmc); have x3 : V3.cell? ⟨mb, 17, none⟩ = some (.slice A k c) := (blk_cell HM3.out 17).trans rfl; have HO3 := Lib.hid (own_kept HOr.out hk (fun j hj e => by omega)); have hl3 : mb < V3.heap.size := blk_lt HM3.out; clear h1 hk))
        all_goals
          go_wp2_with fail
          go_meet
          exact ⟨rfl, dp_cut HD3.out HR3.out HM3.out HO3.out HOWN.out HGROW.out hmg⟩
      case rest =>
        obtain ⟨rfl, A', c', HR4, HM4, HO4, HD4⟩ := hcut
        go_wp2_with fail
        go_roundw
        case rel => exact ⟨k + 1, A', c', xs ++ [x], zs2, q4, by omega, by go_num, HL2, HQ4, Lib.hid (by rw [List.append_assoc]; exact HZZ.out), HR4, HM4, HO4, HD4⟩
        case measure => simp [intOf]; omega
    · have hd := HL.out
      obtain rfl : k = m := by omega
      rw [Nat.sub_self] at hd
      obtain ⟨rfl, rfl⟩ : [] = zs ∧ qi = ql := by simpa [encsL] using hd
      have hz := HZZ.out
      rw [List.append_nil] at hz
      subst hz
      clear hd
      have hlen := HLEN.out
      subst hlen
      go_upto_region 50 with (fail)
      have yr : wr.cell? ⟨(W.heap.size + 1), 2, none⟩ = some (.int .i64 qi.ce) := (blk_cell HDr.out.1.1 2).trans rfl
      by_cases hc : qi.ce = 0
      · as_aux_lemma =>
        have HRES := Lib.hid (show _ = _ from (if_pos hc).symm.trans HRES.out)
        rw [hc] at yr
        have yd1 : wr.drew.cell? ⟨(W.heap.size + 1), 1, none⟩ = some (.int .i64 qi.at_) := (blk_cell HDr.out.1.1 1).trans rfl
        have yd2 : X.rowAt wr.drew mb 30 19 = true := X.rowAt_of (blk_drew HMr.out) rfl
        have yd3 : X.cellsAt wr.drew mb = #[.int .i64 1, .bool false, .int .i64 0, .int .i64 0, .int .i64 0, .int .i64 0, .int .i64 0, .int .i64 0, .int .i64 0, .bool false, .bool false, .int .i64 0, .int .i64 0, .int .i64 0, .int .i64 0, .int .i64 0, .int .i64 0, .slice A xs.length c, .string ⟨#[]⟩] := X.cellsAt_of (blk_drew HMr.out)
        have hst : X.rowAt wr.drew W.heap.size 30 19 = true := X.rowAt_of (blk_drew HRr.out) rfl
        have kp := kp52 (blk_drew HDr.out.1.1) (blk_drew HMr.out) rfl (Ne.symm nrc) (Ne.symm nmr) #[.int .i64 1, .bool false, .int .i64 0, .int .i64 0, .int .i64 0, .int .i64 0, .int .i64 0, .int .i64 0, .int .i64 0, .bool false, .bool false, .int .i64 0, .int .i64 0, .int .i64 0, .int .i64 0, .int .i64 0, .int .i64 0, .slice A xs.length c, .string ⟨#[]⟩]
        go_upto_region 52 with (fail)
        go_cut [3, 4] (fun s3 s4 wx => s3 = .int .i64 (qi.at_) ∧ s4 = .int .i64 (0) ∧ Hid (wx.heap[W.heap.size]? = some (.cells #[.int .i64 1, .bool false, .int .i64 0, .int .i64 0, .int .i64 0, .int .i64 0, .int .i64 0, .int .i64 0, .int .i64 0, .bool false, .bool false, .int .i64 0, .int .i64 0, .int .i64 0, .int .i64 0, .int .i64 0, .int .i64 0, .slice A xs.length c, .string ⟨#[]⟩] 30 (0, 0))) ∧ Hid (Below W.heap.size W wx) ∧ Hid (wx.ownsRow W.heap.size 3 1 (.slice A xs.length c) xs.length (xs.map (Value.int .i64))))
        case first =>
          go_region_held3 (fun w' => w'.cell? ⟨(W.heap.size + 1), 1, none⟩ = some (.int .i64 qi.at_) ∧ X.rowAt w' mb 30 19 = true ∧ X.cellsAt w' mb = #[.int .i64 1, .bool false, .int .i64 0, .int .i64 0, .int .i64 0, .int .i64 0, .int .i64 0, .int .i64 0, .int .i64 0, .bool false, .bool false, .int .i64 0, .int .i64 0, .int .i64 0, .int .i64 0, .int .i64 0, .int .i64 0, .slice A xs.length c, .string ⟨#[]⟩]) (first | go_keep | exact kp) (fail)
          all_goals
            go_wp2_with fail
            go_meet
            exact ⟨rfl, rfl, Lib.hid (by first | exact setRow_heap _ _ _ _ _ _ (blk_drew HRr.out) | exact setRow_heap _ _ _ _ _ _ HRr.out), Lib.hid (by first | exact X.below_row (Below.drew HDr.out.low) (Nat.le_refl _) _ | exact X.below_row HDr.out.low (Nat.le_refl _) _), Lib.hid (own_above (own_row_low (World.ownsRow.drew HOr.out) (by omega) _) (by omega))⟩
        case rest =>
          obtain ⟨rfl, rfl, HYz, HBz, HOz⟩ := hcut
          clear hst kp yd1 yd2 yd3
          go_wp2_with fail
          have hres := HRES.out
          simp only [Prod.mk.injEq] at hres
          obtain ⟨rfl, rfl, rfl, rfl, rfl, rfl, rfl, rfl, rfl, rfl, rfl, rfl, rfl, rfl, rfl, rfl, rfl, rfl, rfl, rfl, rfl⟩ := hres
          refine bodyPost_ret (results_ctt rfl _ _ W.heap.size 30 #[.int .i64 1, .bool false, .int .i64 0, .int .i64 0, .int .i64 0, .int .i64 0, .int .i64 0, .int .i64 0, .int .i64 0, .bool false, .bool false, .int .i64 0, .int .i64 0, .int .i64 0, .int .i64 0, .int .i64 0, .int .i64 0, .slice A xs.length c, .string ⟨#[]⟩] (0, 0) _ rfl (by with_reducible exact HYz.out) Try.underlying30 rfl (by kernel_rfl)) rfl ?_
          exact ⟨_, rfl, Kd.R_of_own (enc := Value.int .i64) HOz.out (fun _ _ => trivial), HBz.out⟩
      · as_aux_lemma =>
        have HRES := Lib.hid (show _ = _ from (if_neg hc).symm.trans HRES.out)
        have d9 : (qi.ce != 0) = true := by simpa using hc
        clear hc
        have yd : wr.drew.cell? ⟨(W.heap.size + 1), 2, none⟩ = some (.int .i64 qi.ce) := yr
        have hst : X.rowAt wr.drew W.heap.size 30 19 = true := X.rowAt_of (blk_drew HRr.out) rfl
        have kp := kp51 (blk_drew HDr.out.1.1) (Ne.symm nrc) #[.int .i64 0, .bool false, .int .i64 0, .int .i64 0, .int .i64 0, .int .i64 0, .int .i64 0, .int .i64 0, .int .i64 0, .bool false, .bool false, .int .i64 0, .int .i64 0, .int .i64 0, .int .i64 0, .int .i64 0, .int .i64 0, .slice none 0 0, .string ⟨#[]⟩]
        have hst2 : X.rowAt wr W.heap.size 30 19 = true := X.rowAt_of HRr.out rfl
        have kp2 := kp51 HDr.out.1.1 (Ne.symm nrc) #[.int .i64 0, .bool false, .int .i64 0, .int .i64 0, .int .i64 0, .int .i64 0, .int .i64 0, .int .i64 0, .int .i64 0, .bool false, .bool false, .int .i64 0, .int .i64 0, .int .i64 0, .int .i64 0, .int .i64 0, .int .i64 0, .slice none 0 0, .string ⟨#[]⟩]
        go_upto_region 51 with (fail)
        go_cut [3, 4] (fun s3 s4 wx => s3 = .int .i64 (0) ∧ s4 = .int .i64 (qi.ce) ∧ Hid (wx.heap[W.heap.size]? = some (.cells #[.int .i64 0, .bool false, .int .i64 0, .int .i64 0, .int .i64 0, .int .i64 0, .int .i64 0, .int .i64 0, .int .i64 0, .bool false, .bool false, .int .i64 0, .int .i64 0, .int .i64 0, .int .i64 0, .int .i64 0, .int .i64 0, .slice none 0 0, .string ⟨#[]⟩] 30 (0, 0))) ∧ Hid (Below W.heap.size W wx))
        case first =>
          go_region_held3 (fun w' => w'.cell? ⟨(W.heap.size + 1), 2, none⟩ = some (.int .i64 qi.ce)) (first | go_keep | exact kp | exact kp2) (fail)
          all_goals
            go_wp2_with fail
            go_meet
            exact ⟨rfl, rfl, Lib.hid (by first | exact setRow_heap _ _ _ _ _ _ (blk_drew HRr.out) | exact setRow_heap _ _ _ _ _ _ HRr.out), Lib.hid (by first | exact X.below_row (Below.drew HDr.out.low) (Nat.le_refl _) _ | exact X.below_row HDr.out.low (Nat.le_refl _) _)⟩
        case rest =>
          obtain ⟨rfl, rfl, HYz, HBz⟩ := hcut
          clear hst kp kp2 hst2 yd
          go_wp2_with fail
          have hres := HRES.out
          simp only [Prod.mk.injEq] at hres
          obtain ⟨rfl, rfl, rfl, rfl, rfl, rfl, rfl, rfl, rfl, rfl, rfl, rfl, rfl, rfl, rfl, rfl, rfl, rfl, rfl, rfl, rfl⟩ := hres
          refine bodyPost_ret (results_ctt rfl _ _ W.heap.size 30 #[.int .i64 0, .bool false, .int .i64 0, .int .i64 0, .int .i64 0, .int .i64 0, .int .i64 0, .int .i64 0, .int .i64 0, .bool false, .bool false, .int .i64 0, .int .i64 0, .int .i64 0, .int .i64 0, .int .i64 0, .int .i64 0, .slice none 0 0, .string ⟨#[]⟩] (0, 0) _ rfl (by with_reducible exact HYz.out) Try.underlying30 rfl (by kernel_rfl)) rfl ?_
          exact ⟨_, rfl, Kd.R_of_own (enc := Value.int .i64) (World.ownsRow_nil _ _ _ _) (fun _ _ => trivial), HBz.out⟩
end
end Go.Proofs.Ytclikkhkhoicfaa.H
