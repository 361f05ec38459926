/- What each Go function that these laws use answers: as a Lean function, with the proof that the machine's call comes to it. Written by a program of this session (xprint.py). -/
import Derived.Test.YtcacnnjedfkelaaXx0
import Derived.Test.YtcacnnjedfkelaaXx1
namespace Go.Proofs.Ytcacnnjedfkelaa.X
open Go.RowKit Go.Proofs.YtcacnnjedfkelaaW.PrintWords Go.Proofs.YtcacnnjedfkelaaW.PrintLast Go.Proofs.YtcacnnjedfkelaaW.PrintMore
attribute [local go_sem] max2_int min2_int max_two min_two max_three min_three max_four min_four   -- for this text's walks alone
set_option linter.unusedVariables false
set_option linter.unusedSimpArgs false

/-! ### octets_Cursor_Left: function 27 -/
def octets_Cursor_Left.f (s0_0 : ByteArray) (s0_1 : Int) (s0_2 : Int) : Option (Int × ByteArray × Int × Int) := some (wrap64 ((s0_0.size : Int) - s0_1), s0_0, s0_1, s0_2)
set_option maxHeartbeats 8000000 in
set_option maxRecDepth 100000 in
theorem octets_Cursor_Left.calls (g : Nat) (s0_0 : ByteArray) (s0_1 : Int) (s0_2 : Int) (r1 : Int) (r2 : ByteArray) (r3 : Int) (r4 : Int) (w0 w : World) (hI : IsS46 w0 w g s0_0 s0_1 s0_2) (hB : Below w0.heap.size w0 w) (h : octets_Cursor_Left.f s0_0 s0_1 s0_2 = some (r1, r2, r3, r4)) :
    Calls Try.prog 27 #[.pointer (some ⟨g, 0, none⟩)] w fun e w' => e = .returned (.int .i64 r1) ∧ IsS46 w0 w' g r2 r3 r4 ∧ Below w0.heap.size w0 w' ∧ KeepBut w w' g none := by
  have HI0 := Aside0.mk hI
  have HK := Aside0.mk (KeepBut.refl w g none)
  have HL := Aside0.mk hB.size
  clear hI
  have HW0 := Aside0.mk hB.size
  have HB := Aside0.mk hB
  clear hB
  have H : (some (wrap64 ((s0_0.size : Int) - s0_1), s0_0, s0_1, s0_2)) = some (r1, r2, r3, r4) := h
  clear h
  simp only [Option.some.injEq, Prod.mk.injEq] at H
  obtain ⟨rfl, rfl, rfl, rfl⟩ := H
  obtain ⟨HGz2, hgz2⟩ := HI0.out
  have hcz2_0 := cellS46_0 HGz2
  have hcz2_1 := cellS46_1 HGz2
  have hcz2_2 := cellS46_2 HGz2
  have hfz2_0 := blk_frozen HGz2 0
  have hfz2_1 := blk_frozen HGz2 1
  have hfz2_2 := blk_frozen HGz2 2
  clear HGz2 hgz2
  go_enter Try.func27, Try.ntmps27
  go_wp2
  repeat (go_quiet (fail); try go_wp2)
  go_ret
  exact ⟨by first | rfl | (simp [errW_none, errW_some] <;> rfl) | (simp [*, errW_none, errW_some] <;> rfl), by repeat (first | (with_reducible first | exact HI0.out | apply IsS46.alloc | apply IsS46.drewN | apply IsS46.drew | apply IsS46.set_0 | apply IsS46.set_1 | apply IsS46.set_2) | exact HI0.out), by repeat (first | (with_reducible first | exact HB.out | apply below_alloc | apply pw_below_drewN | apply below_drew1 | refine below_set ?_ (IsS46.ge HI0.out)) | exact HB.out), by repeat (first | (with_reducible first | exact HK.out | apply KeepBut.set_ | apply keep_drewN | apply keep_drew | apply keep_alloc) | exact HK.out)⟩

/-! ### octets_Cursor_End: function 18 -/
def octets_Cursor_End.f (s0_0 : ByteArray) (s0_1 : Int) (s0_2 : Int) : Option (Int × ByteArray × Int × Int) := if s0_2 = 0 then ((octets_Cursor_Left.f s0_0 s0_1 s0_2).bind fun bt116 => (if bt116.1 > 0 then (some (3, bt116.2.1, bt116.2.2.1, bt116.2.2.2)) else (some (bt116.2.2.2, bt116.2.1, bt116.2.2.1, bt116.2.2.2)))) else (some (s0_2, s0_0, s0_1, s0_2))
set_option maxHeartbeats 8000000 in
set_option maxRecDepth 100000 in
theorem octets_Cursor_End.calls (g : Nat) (s0_0 : ByteArray) (s0_1 : Int) (s0_2 : Int) (r1 : Int) (r2 : ByteArray) (r3 : Int) (r4 : Int) (w0 w : World) (hI : IsS46 w0 w g s0_0 s0_1 s0_2) (hB : Below w0.heap.size w0 w) (h : octets_Cursor_End.f s0_0 s0_1 s0_2 = some (r1, r2, r3, r4)) :
    Calls Try.prog 18 #[.pointer (some ⟨g, 0, none⟩)] w fun e w' => e = .returned (.int .i64 r1) ∧ IsS46 w0 w' g r2 r3 r4 ∧ Below w0.heap.size w0 w' ∧ KeepBut w w' g none := by
  have HI0 := Aside0.mk hI
  have HK := Aside0.mk (KeepBut.refl w g none)
  have HL := Aside0.mk hB.size
  clear hI
  have HW0 := Aside0.mk hB.size
  have HB := Aside0.mk hB
  clear hB
  have H : (if s0_2 = 0 then ((octets_Cursor_Left.f s0_0 s0_1 s0_2).bind fun bt116 => (if bt116.1 > 0 then (some (3, bt116.2.1, bt116.2.2.1, bt116.2.2.2)) else (some (bt116.2.2.2, bt116.2.1, bt116.2.2.1, bt116.2.2.2)))) else (some (s0_2, s0_0, s0_1, s0_2))) = some (r1, r2, r3, r4) := h
  clear h
  by_cases c2 : s0_2 = 0
  · rw [if_pos c2] at H
    have c2b0 : (s0_2 == 0) = true := beq_iff_eq.mpr c2
    have c2b1 : (s0_2 != 0) = false := bne_eq_false_iff_eq.mpr c2
    clear c2
    replace H := Option.bind_eq_some_iff.mp H
    obtain ⟨⟨t116, t117, t118, t119⟩, A30, H⟩ := H
    replace H : (if t116 > 0 then (some (3, t117, t118, t119)) else (some (t119, t117, t118, t119))) = some (r1, r2, r3, r4) := H
    have A3 := Aside0.mk A30
    clear A30
    by_cases c4 : t116 > 0
    · rw [if_pos c4] at H
      have c4b0 : decide (0 < t116) = true := decide_eq_true c4
      clear c4
      simp only [Option.some.injEq, Prod.mk.injEq] at H
      obtain ⟨rfl, rfl, rfl, rfl⟩ := H
      obtain ⟨HGz5, hgz5⟩ := HI0.out
      have hcz5_0 := cellS46_0 HGz5
      have hcz5_1 := cellS46_1 HGz5
      have hcz5_2 := cellS46_2 HGz5
      have hfz5_0 := blk_frozen HGz5 0
      have hfz5_1 := blk_frozen HGz5 1
      have hfz5_2 := blk_frozen HGz5 2
      clear HGz5 hgz5
      go_enter Try.func18, Try.ntmps18
      go_wp2_with (first | (go_at_call 27; (with_reducible refine (octets_Cursor_Left.calls g s0_0 s0_1 s0_2 t116 t117 t118 t119 w0 _ ?side1 ?side2 A3.out).mono ?_); (case side1 => repeat (first | (with_reducible first | exact HI0.out | apply IsS46.alloc | apply IsS46.drewN | apply IsS46.drew | apply IsS46.set_0 | apply IsS46.set_1 | apply IsS46.set_2) | exact HI0.out)); (case side2 => repeat (first | (with_reducible first | exact HB.out | apply below_alloc | apply pw_below_drewN | apply below_drew1 | refine below_set ?_ (IsS46.ge HI0.out)) | exact HB.out)); rintro e w6 ⟨rfl, hi, hb, hk⟩; have n0_ := Aside0.mk (KeepBut.trans (by repeat (first | (with_reducible first | exact HK.out | apply KeepBut.set_ | apply keep_drewN | apply keep_drew | apply keep_alloc) | exact HK.out)) hk (.inl rfl)); have n1_ := Aside0.mk (hb); have n2_ := Aside0.mk (hi); clear HK; clear HB; clear HI0; have HK := n0_; have HB := n1_; have HI0 := n2_; clear n0_ n1_ n2_; (try clear hb); (try clear hb2); (try clear hk); (try clear hi)))
      go_ret
      exact ⟨by first | rfl | (simp [errW_none, errW_some] <;> rfl) | (simp [*, errW_none, errW_some] <;> rfl), by repeat (first | (with_reducible first | exact HI0.out | apply IsS46.alloc | apply IsS46.drewN | apply IsS46.drew | apply IsS46.set_0 | apply IsS46.set_1 | apply IsS46.set_2) | exact HI0.out), by repeat (first | (with_reducible first | exact HB.out | apply below_alloc | apply pw_below_drewN | apply below_drew1 | refine below_set ?_ (IsS46.ge HI0.out)) | exact HB.out), by repeat (first | (with_reducible first | exact HK.out | apply KeepBut.set_ | apply keep_drewN | apply keep_drew | apply keep_alloc) | exact HK.out)⟩
    · rw [if_neg c4] at H
      have c4b0 : decide (0 < t116) = false := decide_eq_false c4
      clear c4
      simp only [Option.some.injEq, Prod.mk.injEq] at H
      obtain ⟨rfl, rfl, rfl, rfl⟩ := H
      obtain ⟨HGz7, hgz7⟩ := HI0.out
      have hcz7_0 := cellS46_0 HGz7
      have hcz7_1 := cellS46_1 HGz7
      have hcz7_2 := cellS46_2 HGz7
      have hfz7_0 := blk_frozen HGz7 0
      have hfz7_1 := blk_frozen HGz7 1
      have hfz7_2 := blk_frozen HGz7 2
      clear HGz7 hgz7
      go_enter Try.func18, Try.ntmps18
      go_wp2_with (first | (go_at_call 27; (with_reducible refine (octets_Cursor_Left.calls g s0_0 s0_1 s0_2 t116 t117 t118 t119 w0 _ ?side1 ?side2 A3.out).mono ?_); (case side1 => repeat (first | (with_reducible first | exact HI0.out | apply IsS46.alloc | apply IsS46.drewN | apply IsS46.drew | apply IsS46.set_0 | apply IsS46.set_1 | apply IsS46.set_2) | exact HI0.out)); (case side2 => repeat (first | (with_reducible first | exact HB.out | apply below_alloc | apply pw_below_drewN | apply below_drew1 | refine below_set ?_ (IsS46.ge HI0.out)) | exact HB.out)); rintro e w8 ⟨rfl, hi, hb, hk⟩; have n0_ := Aside0.mk (KeepBut.trans (by repeat (first | (with_reducible first | exact HK.out | apply KeepBut.set_ | apply keep_drewN | apply keep_drew | apply keep_alloc) | exact HK.out)) hk (.inl rfl)); have n1_ := Aside0.mk (hb); have n2_ := Aside0.mk (hi); clear HK; clear HB; clear HI0; have HK := n0_; have HB := n1_; have HI0 := n2_; clear n0_ n1_ n2_; (try clear hb); (try clear hb2); (try clear hk); (try clear hi); obtain ⟨HGz9, hgz9⟩ := HI0.out; have hcz9_0 := cellS46_0 HGz9; have hcz9_1 := cellS46_1 HGz9; have hcz9_2 := cellS46_2 HGz9; have hfz9_0 := blk_frozen HGz9 0; have hfz9_1 := blk_frozen HGz9 1; have hfz9_2 := blk_frozen HGz9 2; clear HGz9 hgz9))
      go_ret
      exact ⟨by first | rfl | (simp [errW_none, errW_some] <;> rfl) | (simp [*, errW_none, errW_some] <;> rfl), by repeat (first | (with_reducible first | exact HI0.out | apply IsS46.alloc | apply IsS46.drewN | apply IsS46.drew | apply IsS46.set_0 | apply IsS46.set_1 | apply IsS46.set_2) | exact HI0.out), by repeat (first | (with_reducible first | exact HB.out | apply below_alloc | apply pw_below_drewN | apply below_drew1 | refine below_set ?_ (IsS46.ge HI0.out)) | exact HB.out), by repeat (first | (with_reducible first | exact HK.out | apply KeepBut.set_ | apply keep_drewN | apply keep_drew | apply keep_alloc) | exact HK.out)⟩
  · rw [if_neg c2] at H
    have c2b0 : (s0_2 == 0) = false := beq_eq_false_iff_ne.mpr c2
    have c2b1 : (s0_2 != 0) = true := bne_iff_ne.mpr c2
    simp only [Option.some.injEq, Prod.mk.injEq] at H
    obtain ⟨rfl, rfl, rfl, rfl⟩ := H
    obtain ⟨HGz10, hgz10⟩ := HI0.out
    have hcz10_0 := cellS46_0 HGz10
    have hcz10_1 := cellS46_1 HGz10
    have hcz10_2 := cellS46_2 HGz10
    have hfz10_0 := blk_frozen HGz10 0
    have hfz10_1 := blk_frozen HGz10 1
    have hfz10_2 := blk_frozen HGz10 2
    clear HGz10 hgz10
    go_enter Try.func18, Try.ntmps18
    go_wp2
    go_ret
    exact ⟨by first | rfl | (simp [errW_none, errW_some] <;> rfl) | (simp [*, errW_none, errW_some] <;> rfl), by repeat (first | (with_reducible first | exact HI0.out | apply IsS46.alloc | apply IsS46.drewN | apply IsS46.drew | apply IsS46.set_0 | apply IsS46.set_1 | apply IsS46.set_2) | exact HI0.out), by repeat (first | (with_reducible first | exact HB.out | apply below_alloc | apply pw_below_drewN | apply below_drew1 | refine below_set ?_ (IsS46.ge HI0.out)) | exact HB.out), by repeat (first | (with_reducible first | exact HK.out | apply KeepBut.set_ | apply keep_drewN | apply keep_drew | apply keep_alloc) | exact HK.out)⟩

/-! ### octets_Cursor_fail: function 33 -/
def octets_Cursor_fail.f (s0_0 : ByteArray) (s0_1 : Int) (s0_2 : Int) (a1 : Int) : Option (ByteArray × Int × Int) := if s0_2 = 0 then (some (s0_0, s0_1, a1)) else (some (s0_0, s0_1, s0_2))
set_option maxHeartbeats 8000000 in
set_option maxRecDepth 100000 in
theorem octets_Cursor_fail.calls (g : Nat) (s0_0 : ByteArray) (s0_1 : Int) (s0_2 : Int) (a1 : Int) (r1 : ByteArray) (r2 : Int) (r3 : Int) (w0 w : World) (hI : IsS46 w0 w g s0_0 s0_1 s0_2) (hB : Below w0.heap.size w0 w) (h : octets_Cursor_fail.f s0_0 s0_1 s0_2 a1 = some (r1, r2, r3)) :
    Calls Try.prog 33 #[.pointer (some ⟨g, 0, none⟩), .int .i64 a1] w fun e w' => e = .returned (.tuple #[]) ∧ IsS46 w0 w' g r1 r2 r3 ∧ Below w0.heap.size w0 w' ∧ KeepBut w w' g none := by
  have HI0 := Aside0.mk hI
  have HK := Aside0.mk (KeepBut.refl w g none)
  have HL := Aside0.mk hB.size
  clear hI
  have HW0 := Aside0.mk hB.size
  have HB := Aside0.mk hB
  clear hB
  have H : (if s0_2 = 0 then (some (s0_0, s0_1, a1)) else (some (s0_0, s0_1, s0_2))) = some (r1, r2, r3) := h
  clear h
  by_cases c3 : s0_2 = 0
  · rw [if_pos c3] at H
    have c3b0 : (s0_2 == 0) = true := beq_iff_eq.mpr c3
    have c3b1 : (s0_2 != 0) = false := bne_eq_false_iff_eq.mpr c3
    clear c3
    simp only [Option.some.injEq, Prod.mk.injEq] at H
    obtain ⟨rfl, rfl, rfl⟩ := H
    obtain ⟨HGz4, hgz4⟩ := HI0.out
    have hcz4_0 := cellS46_0 HGz4
    have hcz4_1 := cellS46_1 HGz4
    have hcz4_2 := cellS46_2 HGz4
    have hfz4_0 := blk_frozen HGz4 0
    have hfz4_1 := blk_frozen HGz4 1
    have hfz4_2 := blk_frozen HGz4 2
    clear HGz4 hgz4
    go_enter Try.func33, Try.ntmps33
    go_wp2
    first | go_end0 | ((try simp only [Exit.inBlock, Exit.then]); refine bodyPost_ret (results_none rfl _ _ _) rfl ?_)
    exact ⟨by first | rfl | (simp [errW_none, errW_some] <;> rfl) | (simp [*, errW_none, errW_some] <;> rfl), by repeat (first | (with_reducible first | exact HI0.out | apply IsS46.alloc | apply IsS46.drewN | apply IsS46.drew | apply IsS46.set_0 | apply IsS46.set_1 | apply IsS46.set_2) | exact HI0.out), by repeat (first | (with_reducible first | exact HB.out | apply below_alloc | apply pw_below_drewN | apply below_drew1 | refine below_set ?_ (IsS46.ge HI0.out)) | exact HB.out), by repeat (first | (with_reducible first | exact HK.out | apply KeepBut.set_ | apply keep_drewN | apply keep_drew | apply keep_alloc) | exact HK.out)⟩
  · rw [if_neg c3] at H
    have c3b0 : (s0_2 == 0) = false := beq_eq_false_iff_ne.mpr c3
    have c3b1 : (s0_2 != 0) = true := bne_iff_ne.mpr c3
    simp only [Option.some.injEq, Prod.mk.injEq] at H
    obtain ⟨rfl, rfl, rfl⟩ := H
    obtain ⟨HGz5, hgz5⟩ := HI0.out
    have hcz5_0 := cellS46_0 HGz5
    have hcz5_1 := cellS46_1 HGz5
    have hcz5_2 := cellS46_2 HGz5
    have hfz5_0 := blk_frozen HGz5 0
    have hfz5_1 := blk_frozen HGz5 1
    have hfz5_2 := blk_frozen HGz5 2
    clear HGz5 hgz5
    go_enter Try.func33, Try.ntmps33
    go_wp2
    first | go_end0 | ((try simp only [Exit.inBlock, Exit.then]); refine bodyPost_ret (results_none rfl _ _ _) rfl ?_)
    exact ⟨by first | rfl | (simp [errW_none, errW_some] <;> rfl) | (simp [*, errW_none, errW_some] <;> rfl), by repeat (first | (with_reducible first | exact HI0.out | apply IsS46.alloc | apply IsS46.drewN | apply IsS46.drew | apply IsS46.set_0 | apply IsS46.set_1 | apply IsS46.set_2) | exact HI0.out), by repeat (first | (with_reducible first | exact HB.out | apply below_alloc | apply pw_below_drewN | apply below_drew1 | refine below_set ?_ (IsS46.ge HI0.out)) | exact HB.out), by repeat (first | (with_reducible first | exact HK.out | apply KeepBut.set_ | apply keep_drewN | apply keep_drew | apply keep_alloc) | exact HK.out)⟩

/-! ### octets_Cursor_Bytes: function 16 -/
def octets_Cursor_Bytes.f (s0_0 : ByteArray) (s0_1 : Int) (s0_2 : Int) (a1 : Int) : Option (ByteArray × ByteArray × Int × Int) := if a1 < 0 then ((octets_Cursor_fail.f s0_0 s0_1 s0_2 1).bind fun bt120 => (if bt120.2.2 = 0 then (if 0 ≤ (wrap64 ((wrap64 (bt120.2.1 + a1)) - a1)) then (if (wrap64 ((wrap64 (bt120.2.1 + a1)) - a1)) ≤ (wrap64 (bt120.2.1 + a1)) then (if (wrap64 (bt120.2.1 + a1)) ≤ (bt120.1.size : Int) then (some (bt120.1.extract ((wrap64 ((wrap64 (bt120.2.1 + a1)) - a1)) : Int).toNat ((wrap64 (bt120.2.1 + a1)) : Int).toNat, bt120.1, wrap64 (bt120.2.1 + a1), bt120.2.2)) else (none)) else (none)) else (none)) else (some ((⟨#[]⟩ : ByteArray), bt120.1, bt120.2.1, bt120.2.2)))) else ((octets_Cursor_Left.f s0_0 s0_1 s0_2).bind fun bt123 => (if a1 > bt123.1 then ((octets_Cursor_fail.f bt123.2.1 bt123.2.2.1 bt123.2.2.2 2).bind fun bt127 => (if bt127.2.2 = 0 then (if 0 ≤ (wrap64 ((wrap64 (bt127.2.1 + a1)) - a1)) then (if (wrap64 ((wrap64 (bt127.2.1 + a1)) - a1)) ≤ (wrap64 (bt127.2.1 + a1)) then (if (wrap64 (bt127.2.1 + a1)) ≤ (bt127.1.size : Int) then (some (bt127.1.extract ((wrap64 ((wrap64 (bt127.2.1 + a1)) - a1)) : Int).toNat ((wrap64 (bt127.2.1 + a1)) : Int).toNat, bt127.1, wrap64 (bt127.2.1 + a1), bt127.2.2)) else (none)) else (none)) else (none)) else (some ((⟨#[]⟩ : ByteArray), bt127.1, bt127.2.1, bt127.2.2)))) else (if bt123.2.2.2 = 0 then (if 0 ≤ (wrap64 ((wrap64 (bt123.2.2.1 + a1)) - a1)) then (if (wrap64 ((wrap64 (bt123.2.2.1 + a1)) - a1)) ≤ (wrap64 (bt123.2.2.1 + a1)) then (if (wrap64 (bt123.2.2.1 + a1)) ≤ (bt123.2.1.size : Int) then (some (bt123.2.1.extract ((wrap64 ((wrap64 (bt123.2.2.1 + a1)) - a1)) : Int).toNat ((wrap64 (bt123.2.2.1 + a1)) : Int).toNat, bt123.2.1, wrap64 (bt123.2.2.1 + a1), bt123.2.2.2)) else (none)) else (none)) else (none)) else (some ((⟨#[]⟩ : ByteArray), bt123.2.1, bt123.2.2.1, bt123.2.2.2)))))
set_option maxHeartbeats 8000000 in
set_option maxRecDepth 100000 in
theorem octets_Cursor_Bytes.calls (g : Nat) (s0_0 : ByteArray) (s0_1 : Int) (s0_2 : Int) (a1 : Int) (r1 : ByteArray) (r2 : ByteArray) (r3 : Int) (r4 : Int) (w0 w : World) (hI : IsS46 w0 w g s0_0 s0_1 s0_2) (hB : Below w0.heap.size w0 w) (h : octets_Cursor_Bytes.f s0_0 s0_1 s0_2 a1 = some (r1, r2, r3, r4)) :
    Calls Try.prog 16 #[.pointer (some ⟨g, 0, none⟩), .int .i64 a1] w fun e w' => e = .returned (.string r1) ∧ IsS46 w0 w' g r2 r3 r4 ∧ Below w0.heap.size w0 w' ∧ KeepBut w w' g none := by
  have HI0 := Aside0.mk hI
  have HK := Aside0.mk (KeepBut.refl w g none)
  have HL := Aside0.mk hB.size
  clear hI
  have HW0 := Aside0.mk hB.size
  have HB := Aside0.mk hB
  clear hB
  have H : (if a1 < 0 then ((octets_Cursor_fail.f s0_0 s0_1 s0_2 1).bind fun bt120 => (if bt120.2.2 = 0 then (if 0 ≤ (wrap64 ((wrap64 (bt120.2.1 + a1)) - a1)) then (if (wrap64 ((wrap64 (bt120.2.1 + a1)) - a1)) ≤ (wrap64 (bt120.2.1 + a1)) then (if (wrap64 (bt120.2.1 + a1)) ≤ (bt120.1.size : Int) then (some (bt120.1.extract ((wrap64 ((wrap64 (bt120.2.1 + a1)) - a1)) : Int).toNat ((wrap64 (bt120.2.1 + a1)) : Int).toNat, bt120.1, wrap64 (bt120.2.1 + a1), bt120.2.2)) else (none)) else (none)) else (none)) else (some ((⟨#[]⟩ : ByteArray), bt120.1, bt120.2.1, bt120.2.2)))) else ((octets_Cursor_Left.f s0_0 s0_1 s0_2).bind fun bt123 => (if a1 > bt123.1 then ((octets_Cursor_fail.f bt123.2.1 bt123.2.2.1 bt123.2.2.2 2).bind fun bt127 => (if bt127.2.2 = 0 then (if 0 ≤ (wrap64 ((wrap64 (bt127.2.1 + a1)) - a1)) then (if (wrap64 ((wrap64 (bt127.2.1 + a1)) - a1)) ≤ (wrap64 (bt127.2.1 + a1)) then (if (wrap64 (bt127.2.1 + a1)) ≤ (bt127.1.size : Int) then (some (bt127.1.extract ((wrap64 ((wrap64 (bt127.2.1 + a1)) - a1)) : Int).toNat ((wrap64 (bt127.2.1 + a1)) : Int).toNat, bt127.1, wrap64 (bt127.2.1 + a1), bt127.2.2)) else (none)) else (none)) else (none)) else (some ((⟨#[]⟩ : ByteArray), bt127.1, bt127.2.1, bt127.2.2)))) else (if bt123.2.2.2 = 0 then (if 0 ≤ (wrap64 ((wrap64 (bt123.2.2.1 + a1)) - a1)) then (if (wrap64 ((wrap64 (bt123.2.2.1 + a1)) - a1)) ≤ (wrap64 (bt123.2.2.1 + a1)) then (if (wrap64 (bt123.2.2.1 + a1)) ≤ (bt123.2.1.size : Int) then (some (bt123.2.1.extract ((wrap64 ((wrap64 (bt123.2.2.1 + a1)) - a1)) : Int).toNat ((wrap64 (bt123.2.2.1 + a1)) : Int).toNat, bt123.2.1, wrap64 (bt123.2.2.1 + a1), bt123.2.2.2)) else (none)) else (none)) else (none)) else (some ((⟨#[]⟩ : ByteArray), bt123.2.1, bt123.2.2.1, bt123.2.2.2)))))) = some (r1, r2, r3, r4) := h
  clear h
  by_cases c3 : a1 < 0
  · rw [if_pos c3] at H
    have c3b0 : decide (a1 < 0) = true := decide_eq_true c3
    clear c3
    replace H := Option.bind_eq_some_iff.mp H
    obtain ⟨⟨t120, t121, t122⟩, A40, H⟩ := H
    replace H : (if t122 = 0 then (if 0 ≤ (wrap64 ((wrap64 (t121 + a1)) - a1)) then (if (wrap64 ((wrap64 (t121 + a1)) - a1)) ≤ (wrap64 (t121 + a1)) then (if (wrap64 (t121 + a1)) ≤ (t120.size : Int) then (some (t120.extract ((wrap64 ((wrap64 (t121 + a1)) - a1)) : Int).toNat ((wrap64 (t121 + a1)) : Int).toNat, t120, wrap64 (t121 + a1), t122)) else (none)) else (none)) else (none)) else (some ((⟨#[]⟩ : ByteArray), t120, t121, t122))) = some (r1, r2, r3, r4) := H
    have A4 := Aside0.mk A40
    clear A40
    by_cases c5 : t122 = 0
    · rw [if_pos c5] at H
      have c5b0 : (t122 == 0) = true := beq_iff_eq.mpr c5
      have c5b1 : (t122 != 0) = false := bne_eq_false_iff_eq.mpr c5
      clear c5
      obtain ⟨ji6, hji6⟩ : ∃ j_ : Int, (wrap64 ((wrap64 (t121 + a1)) - a1)) = j_ := ⟨_, rfl⟩
      replace H : (if 0 ≤ (ji6) then (if (ji6) ≤ (wrap64 (t121 + a1)) then (if (wrap64 (t121 + a1)) ≤ (t120.size : Int) then (some (t120.extract ((ji6) : Int).toNat ((wrap64 (t121 + a1)) : Int).toNat, t120, wrap64 (t121 + a1), t122)) else (none)) else (none)) else (none)) = some (r1, r2, r3, r4) := by first | (rw [hji6] at H; exact H) | (simp only [hji6] at H ⊢; exact H)
      (try rw [hji6] at A4)
      have hji6w : (IntKind.i64.wrap ((wrap64 (t121 + a1)) - a1)) = ji6 := (i64_w _).trans hji6
      by_cases c7 : 0 ≤ (ji6)
      · rw [if_pos c7] at H
        have c7b0 := eq_true c7
        have c7b1 : decide (0 ≤ (ji6)) = true := decide_eq_true c7
        clear c7
        by_cases c8 : (ji6) ≤ (wrap64 (t121 + a1))
        · rw [if_pos c8] at H
          have c8b0 := eq_true c8
          have c8b1 : decide ((ji6) ≤ (wrap64 (t121 + a1))) = true := decide_eq_true c8
          by_cases c9 : (wrap64 (t121 + a1)) ≤ (t120.size : Int)
          · rw [if_pos c9] at H
            have c9b0 := eq_true c9
            have c9b1 : decide ((wrap64 (t121 + a1)) ≤ (t120.size : Int)) = true := decide_eq_true c9
            simp only [Option.some.injEq, Prod.mk.injEq] at H
            obtain ⟨rfl, rfl, rfl, rfl⟩ := H
            go_enter Try.func16, Try.ntmps16
            go_wp2_with (first | (go_at_call 33; (with_reducible refine (octets_Cursor_fail.calls g s0_0 s0_1 s0_2 1 t120 t121 t122 w0 _ ?side1 ?side2 A4.out).mono ?_); (case side1 => repeat (first | (with_reducible first | exact HI0.out | apply IsS46.alloc | apply IsS46.drewN | apply IsS46.drew | apply IsS46.set_0 | apply IsS46.set_1 | apply IsS46.set_2) | exact HI0.out)); (case side2 => repeat (first | (with_reducible first | exact HB.out | apply below_alloc | apply pw_below_drewN | apply below_drew1 | refine below_set ?_ (IsS46.ge HI0.out)) | exact HB.out)); rintro e w10 ⟨rfl, hi, hb, hk⟩; have n0_ := Aside0.mk (KeepBut.trans (by repeat (first | (with_reducible first | exact HK.out | apply KeepBut.set_ | apply keep_drewN | apply keep_drew | apply keep_alloc) | exact HK.out)) hk (.inl rfl)); have n1_ := Aside0.mk (hb); have n2_ := Aside0.mk (hi); clear HK; clear HB; clear HI0; have HK := n0_; have HB := n1_; have HI0 := n2_; clear n0_ n1_ n2_; (try clear hb); (try clear hb2); (try clear hk); (try clear hi); obtain ⟨HGz11, hgz11⟩ := HI0.out; have hcz11_0 := cellS46_0 HGz11; have hcz11_1 := cellS46_1 HGz11; have hcz11_2 := cellS46_2 HGz11; have hfz11_0 := blk_frozen HGz11 0; have hfz11_1 := blk_frozen HGz11 1; have hfz11_2 := blk_frozen HGz11 2; clear HGz11 hgz11))
            repeat (go_quiet (first | (go_at_call 33; (with_reducible refine (octets_Cursor_fail.calls g s0_0 s0_1 s0_2 1 t120 t121 t122 w0 _ ?side1 ?side2 A4.out).mono ?_); (case side1 => repeat (first | (with_reducible first | exact HI0.out | apply IsS46.alloc | apply IsS46.drewN | apply IsS46.drew | apply IsS46.set_0 | apply IsS46.set_1 | apply IsS46.set_2) | exact HI0.out)); (case side2 => repeat (first | (with_reducible first | exact HB.out | apply below_alloc | apply pw_below_drewN | apply below_drew1 | refine below_set ?_ (IsS46.ge HI0.out)) | exact HB.out)); rintro e w10 ⟨rfl, hi, hb, hk⟩; have n0_ := Aside0.mk (KeepBut.trans (by repeat (first | (with_reducible first | exact HK.out | apply KeepBut.set_ | apply keep_drewN | apply keep_drew | apply keep_alloc) | exact HK.out)) hk (.inl rfl)); have n1_ := Aside0.mk (hb); have n2_ := Aside0.mk (hi); clear HK; clear HB; clear HI0; have HK := n0_; have HB := n1_; have HI0 := n2_; clear n0_ n1_ n2_; (try clear hb); (try clear hb2); (try clear hk); (try clear hi); obtain ⟨HGz11, hgz11⟩ := HI0.out; have hcz11_0 := cellS46_0 HGz11; have hcz11_1 := cellS46_1 HGz11; have hcz11_2 := cellS46_2 HGz11; have hfz11_0 := blk_frozen HGz11 0; have hfz11_1 := blk_frozen HGz11 1; have hfz11_2 := blk_frozen HGz11 2; clear HGz11 hgz11)); try go_wp2_with (first | (go_at_call 33; (with_reducible refine (octets_Cursor_fail.calls g s0_0 s0_1 s0_2 1 t120 t121 t122 w0 _ ?side1 ?side2 A4.out).mono ?_); (case side1 => repeat (first | (with_reducible first | exact HI0.out | apply IsS46.alloc | apply IsS46.drewN | apply IsS46.drew | apply IsS46.set_0 | apply IsS46.set_1 | apply IsS46.set_2) | exact HI0.out)); (case side2 => repeat (first | (with_reducible first | exact HB.out | apply below_alloc | apply pw_below_drewN | apply below_drew1 | refine below_set ?_ (IsS46.ge HI0.out)) | exact HB.out)); rintro e w10 ⟨rfl, hi, hb, hk⟩; have n0_ := Aside0.mk (KeepBut.trans (by repeat (first | (with_reducible first | exact HK.out | apply KeepBut.set_ | apply keep_drewN | apply keep_drew | apply keep_alloc) | exact HK.out)) hk (.inl rfl)); have n1_ := Aside0.mk (hb); have n2_ := Aside0.mk (hi); clear HK; clear HB; clear HI0; have HK := n0_; have HB := n1_; have HI0 := n2_; clear n0_ n1_ n2_; (try clear hb); (try clear hb2); (try clear hk); (try clear hi); obtain ⟨HGz11, hgz11⟩ := HI0.out; have hcz11_0 := cellS46_0 HGz11; have hcz11_1 := cellS46_1 HGz11; have hcz11_2 := cellS46_2 HGz11; have hfz11_0 := blk_frozen HGz11 0; have hfz11_1 := blk_frozen HGz11 1; have hfz11_2 := blk_frozen HGz11 2; clear HGz11 hgz11)))
            go_ret
            exact ⟨by first | rfl | (simp [errW_none, errW_some] <;> rfl) | (simp only [← hji6]; first | rfl | (simp [errW_none, errW_some] <;> rfl)) | (simp [*, errW_none, errW_some] <;> rfl), by repeat (first | (with_reducible first | exact HI0.out | apply IsS46.alloc | apply IsS46.drewN | apply IsS46.drew | apply IsS46.set_0 | apply IsS46.set_1 | apply IsS46.set_2) | exact HI0.out), by repeat (first | (with_reducible first | exact HB.out | apply below_alloc | apply pw_below_drewN | apply below_drew1 | refine below_set ?_ (IsS46.ge HI0.out)) | exact HB.out), by repeat (first | (with_reducible first | exact HK.out | apply KeepBut.set_ | apply keep_drewN | apply keep_drew | apply keep_alloc) | exact HK.out)⟩
          · rw [if_neg c9] at H
            exact absurd H (by simp)
        · rw [if_neg c8] at H
          exact absurd H (by simp)
      · rw [if_neg c7] at H
        exact absurd H (by simp)
    · rw [if_neg c5] at H
      have c5b0 : (t122 == 0) = false := beq_eq_false_iff_ne.mpr c5
      have c5b1 : (t122 != 0) = true := bne_iff_ne.mpr c5
      simp only [Option.some.injEq, Prod.mk.injEq] at H
      obtain ⟨rfl, rfl, rfl, rfl⟩ := H
      go_enter Try.func16, Try.ntmps16
      go_wp2_with (first | (go_at_call 33; (with_reducible refine (octets_Cursor_fail.calls g s0_0 s0_1 s0_2 1 t120 t121 t122 w0 _ ?side1 ?side2 A4.out).mono ?_); (case side1 => repeat (first | (with_reducible first | exact HI0.out | apply IsS46.alloc | apply IsS46.drewN | apply IsS46.drew | apply IsS46.set_0 | apply IsS46.set_1 | apply IsS46.set_2) | exact HI0.out)); (case side2 => repeat (first | (with_reducible first | exact HB.out | apply below_alloc | apply pw_below_drewN | apply below_drew1 | refine below_set ?_ (IsS46.ge HI0.out)) | exact HB.out)); rintro e w12 ⟨rfl, hi, hb, hk⟩; have n0_ := Aside0.mk (KeepBut.trans (by repeat (first | (with_reducible first | exact HK.out | apply KeepBut.set_ | apply keep_drewN | apply keep_drew | apply keep_alloc) | exact HK.out)) hk (.inl rfl)); have n1_ := Aside0.mk (hb); have n2_ := Aside0.mk (hi); clear HK; clear HB; clear HI0; have HK := n0_; have HB := n1_; have HI0 := n2_; clear n0_ n1_ n2_; (try clear hb); (try clear hb2); (try clear hk); (try clear hi); obtain ⟨HGz13, hgz13⟩ := HI0.out; have hcz13_0 := cellS46_0 HGz13; have hcz13_1 := cellS46_1 HGz13; have hcz13_2 := cellS46_2 HGz13; have hfz13_0 := blk_frozen HGz13 0; have hfz13_1 := blk_frozen HGz13 1; have hfz13_2 := blk_frozen HGz13 2; clear HGz13 hgz13))
      repeat (go_quiet (first | (go_at_call 33; (with_reducible refine (octets_Cursor_fail.calls g s0_0 s0_1 s0_2 1 t120 t121 t122 w0 _ ?side1 ?side2 A4.out).mono ?_); (case side1 => repeat (first | (with_reducible first | exact HI0.out | apply IsS46.alloc | apply IsS46.drewN | apply IsS46.drew | apply IsS46.set_0 | apply IsS46.set_1 | apply IsS46.set_2) | exact HI0.out)); (case side2 => repeat (first | (with_reducible first | exact HB.out | apply below_alloc | apply pw_below_drewN | apply below_drew1 | refine below_set ?_ (IsS46.ge HI0.out)) | exact HB.out)); rintro e w12 ⟨rfl, hi, hb, hk⟩; have n0_ := Aside0.mk (KeepBut.trans (by repeat (first | (with_reducible first | exact HK.out | apply KeepBut.set_ | apply keep_drewN | apply keep_drew | apply keep_alloc) | exact HK.out)) hk (.inl rfl)); have n1_ := Aside0.mk (hb); have n2_ := Aside0.mk (hi); clear HK; clear HB; clear HI0; have HK := n0_; have HB := n1_; have HI0 := n2_; clear n0_ n1_ n2_; (try clear hb); (try clear hb2); (try clear hk); (try clear hi); obtain ⟨HGz13, hgz13⟩ := HI0.out; have hcz13_0 := cellS46_0 HGz13; have hcz13_1 := cellS46_1 HGz13; have hcz13_2 := cellS46_2 HGz13; have hfz13_0 := blk_frozen HGz13 0; have hfz13_1 := blk_frozen HGz13 1; have hfz13_2 := blk_frozen HGz13 2; clear HGz13 hgz13)); try go_wp2_with (first | (go_at_call 33; (with_reducible refine (octets_Cursor_fail.calls g s0_0 s0_1 s0_2 1 t120 t121 t122 w0 _ ?side1 ?side2 A4.out).mono ?_); (case side1 => repeat (first | (with_reducible first | exact HI0.out | apply IsS46.alloc | apply IsS46.drewN | apply IsS46.drew | apply IsS46.set_0 | apply IsS46.set_1 | apply IsS46.set_2) | exact HI0.out)); (case side2 => repeat (first | (with_reducible first | exact HB.out | apply below_alloc | apply pw_below_drewN | apply below_drew1 | refine below_set ?_ (IsS46.ge HI0.out)) | exact HB.out)); rintro e w12 ⟨rfl, hi, hb, hk⟩; have n0_ := Aside0.mk (KeepBut.trans (by repeat (first | (with_reducible first | exact HK.out | apply KeepBut.set_ | apply keep_drewN | apply keep_drew | apply keep_alloc) | exact HK.out)) hk (.inl rfl)); have n1_ := Aside0.mk (hb); have n2_ := Aside0.mk (hi); clear HK; clear HB; clear HI0; have HK := n0_; have HB := n1_; have HI0 := n2_; clear n0_ n1_ n2_; (try clear hb); (try clear hb2); (try clear hk); (try clear hi); obtain ⟨HGz13, hgz13⟩ := HI0.out; have hcz13_0 := cellS46_0 HGz13; have hcz13_1 := cellS46_1 HGz13; have hcz13_2 := cellS46_2 HGz13; have hfz13_0 := blk_frozen HGz13 0; have hfz13_1 := blk_frozen HGz13 1; have hfz13_2 := blk_frozen HGz13 2; clear HGz13 hgz13)))
      go_ret
      exact ⟨by first | rfl | (simp [errW_none, errW_some] <;> rfl) | (simp [*, errW_none, errW_some] <;> rfl), by repeat (first | (with_reducible first | exact HI0.out | apply IsS46.alloc | apply IsS46.drewN | apply IsS46.drew | apply IsS46.set_0 | apply IsS46.set_1 | apply IsS46.set_2) | exact HI0.out), by repeat (first | (with_reducible first | exact HB.out | apply below_alloc | apply pw_below_drewN | apply below_drew1 | refine below_set ?_ (IsS46.ge HI0.out)) | exact HB.out), by repeat (first | (with_reducible first | exact HK.out | apply KeepBut.set_ | apply keep_drewN | apply keep_drew | apply keep_alloc) | exact HK.out)⟩
  · rw [if_neg c3] at H
    have c3b0 : decide (a1 < 0) = false := decide_eq_false c3
    clear c3
    replace H := Option.bind_eq_some_iff.mp H
    obtain ⟨⟨t123, t124, t125, t126⟩, A140, H⟩ := H
    replace H : (if a1 > t123 then ((octets_Cursor_fail.f t124 t125 t126 2).bind fun bt127 => (if bt127.2.2 = 0 then (if 0 ≤ (wrap64 ((wrap64 (bt127.2.1 + a1)) - a1)) then (if (wrap64 ((wrap64 (bt127.2.1 + a1)) - a1)) ≤ (wrap64 (bt127.2.1 + a1)) then (if (wrap64 (bt127.2.1 + a1)) ≤ (bt127.1.size : Int) then (some (bt127.1.extract ((wrap64 ((wrap64 (bt127.2.1 + a1)) - a1)) : Int).toNat ((wrap64 (bt127.2.1 + a1)) : Int).toNat, bt127.1, wrap64 (bt127.2.1 + a1), bt127.2.2)) else (none)) else (none)) else (none)) else (some ((⟨#[]⟩ : ByteArray), bt127.1, bt127.2.1, bt127.2.2)))) else (if t126 = 0 then (if 0 ≤ (wrap64 ((wrap64 (t125 + a1)) - a1)) then (if (wrap64 ((wrap64 (t125 + a1)) - a1)) ≤ (wrap64 (t125 + a1)) then (if (wrap64 (t125 + a1)) ≤ (t124.size : Int) then (some (t124.extract ((wrap64 ((wrap64 (t125 + a1)) - a1)) : Int).toNat ((wrap64 (t125 + a1)) : Int).toNat, t124, wrap64 (t125 + a1), t126)) else (none)) else (none)) else (none)) else (some ((⟨#[]⟩ : ByteArray), t124, t125, t126)))) = some (r1, r2, r3, r4) := H
    have A14 := Aside0.mk A140
    clear A140
    by_cases c15 : a1 > t123
    · rw [if_pos c15] at H
      have c15b0 : decide (t123 < a1) = true := decide_eq_true c15
      clear c15
      replace H := Option.bind_eq_some_iff.mp H
      obtain ⟨⟨t127, t128, t129⟩, A160, H⟩ := H
      replace H : (if t129 = 0 then (if 0 ≤ (wrap64 ((wrap64 (t128 + a1)) - a1)) then (if (wrap64 ((wrap64 (t128 + a1)) - a1)) ≤ (wrap64 (t128 + a1)) then (if (wrap64 (t128 + a1)) ≤ (t127.size : Int) then (some (t127.extract ((wrap64 ((wrap64 (t128 + a1)) - a1)) : Int).toNat ((wrap64 (t128 + a1)) : Int).toNat, t127, wrap64 (t128 + a1), t129)) else (none)) else (none)) else (none)) else (some ((⟨#[]⟩ : ByteArray), t127, t128, t129))) = some (r1, r2, r3, r4) := H
      have A16 := Aside0.mk A160
      clear A160
      by_cases c17 : t129 = 0
      · rw [if_pos c17] at H
        have c17b0 : (t129 == 0) = true := beq_iff_eq.mpr c17
        have c17b1 : (t129 != 0) = false := bne_eq_false_iff_eq.mpr c17
        clear c17
        obtain ⟨ji18, hji18⟩ : ∃ j_ : Int, (wrap64 ((wrap64 (t128 + a1)) - a1)) = j_ := ⟨_, rfl⟩
        replace H : (if 0 ≤ (ji18) then (if (ji18) ≤ (wrap64 (t128 + a1)) then (if (wrap64 (t128 + a1)) ≤ (t127.size : Int) then (some (t127.extract ((ji18) : Int).toNat ((wrap64 (t128 + a1)) : Int).toNat, t127, wrap64 (t128 + a1), t129)) else (none)) else (none)) else (none)) = some (r1, r2, r3, r4) := by first | (rw [hji18] at H; exact H) | (simp only [hji18] at H ⊢; exact H)
        (try rw [hji18] at A14)
        (try rw [hji18] at A16)
        have hji18w : (IntKind.i64.wrap ((wrap64 (t128 + a1)) - a1)) = ji18 := (i64_w _).trans hji18
        by_cases c19 : 0 ≤ (ji18)
        · rw [if_pos c19] at H
          have c19b0 := eq_true c19
          have c19b1 : decide (0 ≤ (ji18)) = true := decide_eq_true c19
          clear c19
          by_cases c20 : (ji18) ≤ (wrap64 (t128 + a1))
          · rw [if_pos c20] at H
            have c20b0 := eq_true c20
            have c20b1 : decide ((ji18) ≤ (wrap64 (t128 + a1))) = true := decide_eq_true c20
            by_cases c21 : (wrap64 (t128 + a1)) ≤ (t127.size : Int)
            · rw [if_pos c21] at H
              have c21b0 := eq_true c21
              have c21b1 : decide ((wrap64 (t128 + a1)) ≤ (t127.size : Int)) = true := decide_eq_true c21
              simp only [Option.some.injEq, Prod.mk.injEq] at H
              obtain ⟨rfl, rfl, rfl, rfl⟩ := H
              go_enter Try.func16, Try.ntmps16
              go_wp2_with (first | (go_at_call 27; (with_reducible refine (octets_Cursor_Left.calls g s0_0 s0_1 s0_2 t123 t124 t125 t126 w0 _ ?side1 ?side2 A14.out).mono ?_); (case side1 => repeat (first | (with_reducible first | exact HI0.out | apply IsS46.alloc | apply IsS46.drewN | apply IsS46.drew | apply IsS46.set_0 | apply IsS46.set_1 | apply IsS46.set_2) | exact HI0.out)); (case side2 => repeat (first | (with_reducible first | exact HB.out | apply below_alloc | apply pw_below_drewN | apply below_drew1 | refine below_set ?_ (IsS46.ge HI0.out)) | exact HB.out)); rintro e w22 ⟨rfl, hi, hb, hk⟩; have n0_ := Aside0.mk (KeepBut.trans (by repeat (first | (with_reducible first | exact HK.out | apply KeepBut.set_ | apply keep_drewN | apply keep_drew | apply keep_alloc) | exact HK.out)) hk (.inl rfl)); have n1_ := Aside0.mk (hb); have n2_ := Aside0.mk (hi); clear HK; clear HB; clear HI0; have HK := n0_; have HB := n1_; have HI0 := n2_; clear n0_ n1_ n2_; (try clear hb); (try clear hb2); (try clear hk); (try clear hi)) | (go_at_call 33; (with_reducible refine (octets_Cursor_fail.calls g t124 t125 t126 2 t127 t128 t129 w0 _ ?side1 ?side2 A16.out).mono ?_); (case side1 => repeat (first | (with_reducible first | exact HI0.out | apply IsS46.alloc | apply IsS46.drewN | apply IsS46.drew | apply IsS46.set_0 | apply IsS46.set_1 | apply IsS46.set_2) | exact HI0.out)); (case side2 => repeat (first | (with_reducible first | exact HB.out | apply below_alloc | apply pw_below_drewN | apply below_drew1 | refine below_set ?_ (IsS46.ge HI0.out)) | exact HB.out)); rintro e w23 ⟨rfl, hi, hb, hk⟩; have n0_ := Aside0.mk (KeepBut.trans (by repeat (first | (with_reducible first | exact HK.out | apply KeepBut.set_ | apply keep_drewN | apply keep_drew | apply keep_alloc) | exact HK.out)) hk (.inl rfl)); have n1_ := Aside0.mk (hb); have n2_ := Aside0.mk (hi); clear HK; clear HB; clear HI0; have HK := n0_; have HB := n1_; have HI0 := n2_; clear n0_ n1_ n2_; (try clear hb); (try clear hb2); (try clear hk); (try clear hi); obtain ⟨HGz24, hgz24⟩ := HI0.out; have hcz24_0 := cellS46_0 HGz24; have hcz24_1 := cellS46_1 HGz24; have hcz24_2 := cellS46_2 HGz24; have hfz24_0 := blk_frozen HGz24 0; have hfz24_1 := blk_frozen HGz24 1; have hfz24_2 := blk_frozen HGz24 2; clear HGz24 hgz24))
              repeat (go_quiet (first | (go_at_call 27; (with_reducible refine (octets_Cursor_Left.calls g s0_0 s0_1 s0_2 t123 t124 t125 t126 w0 _ ?side1 ?side2 A14.out).mono ?_); (case side1 => repeat (first | (with_reducible first | exact HI0.out | apply IsS46.alloc | apply IsS46.drewN | apply IsS46.drew | apply IsS46.set_0 | apply IsS46.set_1 | apply IsS46.set_2) | exact HI0.out)); (case side2 => repeat (first | (with_reducible first | exact HB.out | apply below_alloc | apply pw_below_drewN | apply below_drew1 | refine below_set ?_ (IsS46.ge HI0.out)) | exact HB.out)); rintro e w22 ⟨rfl, hi, hb, hk⟩; have n0_ := Aside0.mk (KeepBut.trans (by repeat (first | (with_reducible first | exact HK.out | apply KeepBut.set_ | apply keep_drewN | apply keep_drew | apply keep_alloc) | exact HK.out)) hk (.inl rfl)); have n1_ := Aside0.mk (hb); have n2_ := Aside0.mk (hi); clear HK; clear HB; clear HI0; have HK := n0_; have HB := n1_; have HI0 := n2_; clear n0_ n1_ n2_; (try clear hb); (try clear hb2); (try clear hk); (try clear hi)) | (go_at_call 33; (with_reducible refine (octets_Cursor_fail.calls g t124 t125 t126 2 t127 t128 t129 w0 _ ?side1 ?side2 A16.out).mono ?_); (case side1 => repeat (first | (with_reducible first | exact HI0.out | apply IsS46.alloc | apply IsS46.drewN | apply IsS46.drew | apply IsS46.set_0 | apply IsS46.set_1 | apply IsS46.set_2) | exact HI0.out)); (case side2 => repeat (first | (with_reducible first | exact HB.out | apply below_alloc | apply pw_below_drewN | apply below_drew1 | refine below_set ?_ (IsS46.ge HI0.out)) | exact HB.out)); rintro e w23 ⟨rfl, hi, hb, hk⟩; have n0_ := Aside0.mk (KeepBut.trans (by repeat (first | (with_reducible first | exact HK.out | apply KeepBut.set_ | apply keep_drewN | apply keep_drew | apply keep_alloc) | exact HK.out)) hk (.inl rfl)); have n1_ := Aside0.mk (hb); have n2_ := Aside0.mk (hi); clear HK; clear HB; clear HI0; have HK := n0_; have HB := n1_; have HI0 := n2_; clear n0_ n1_ n2_; (try clear hb); (try clear hb2); (try clear hk); (try clear hi); obtain ⟨HGz24, hgz24⟩ := HI0.out; have hcz24_0 := cellS46_0 HGz24; have hcz24_1 := cellS46_1 HGz24; have hcz24_2 := cellS46_2 HGz24; have hfz24_0 := blk_frozen HGz24 0; have hfz24_1 := blk_frozen HGz24 1; have hfz24_2 := blk_frozen HGz24 2; clear HGz24 hgz24)); try go_wp2_with (first | (go_at_call 27; (with_reducible refine (octets_Cursor_Left.calls g s0_0 s0_1 s0_2 t123 t124 t125 t126 w0 _ ?side1 ?side2 A14.out).mono ?_); (case side1 => repeat (first | (with_reducible first | exact HI0.out | apply IsS46.alloc | apply IsS46.drewN | apply IsS46.drew | apply IsS46.set_0 | apply IsS46.set_1 | apply IsS46.set_2) | exact HI0.out)); (case side2 => repeat (first | (with_reducible first | exact HB.out | apply below_alloc | apply pw_below_drewN | apply below_drew1 | refine below_set ?_ (IsS46.ge HI0.out)) | exact HB.out)); rintro e w22 ⟨rfl, hi, hb, hk⟩; have n0_ := Aside0.mk (KeepBut.trans (by repeat (first | (with_reducible first | exact HK.out | apply KeepBut.set_ | apply keep_drewN | apply keep_drew | apply keep_alloc) | exact HK.out)) hk (.inl rfl)); have n1_ := Aside0.mk (hb); have n2_ := Aside0.mk (hi); clear HK; clear HB; clear HI0; have HK := n0_; have HB := n1_; have HI0 := n2_; clear n0_ n1_ n2_; (try clear hb); (try clear hb2); (try clear hk); (try clear hi)) | (go_at_call 33; (with_reducible refine (octets_Cursor_fail.calls g t124 t125 t126 2 t127 t128 t129 w0 _ ?side1 ?side2 A16.out).mono ?_); (case side1 => repeat (first | (with_reducible first | exact HI0.out | apply IsS46.alloc | apply IsS46.drewN | apply IsS46.drew | apply IsS46.set_0 | apply IsS46.set_1 | apply IsS46.set_2) | exact HI0.out)); (case side2 => repeat (first | (with_reducible first | exact HB.out | apply below_alloc | apply pw_below_drewN | apply below_drew1 | refine below_set ?_ (IsS46.ge HI0.out)) | exact HB.out)); rintro e w23 ⟨rfl, hi, hb, hk⟩; have n0_ := Aside0.mk (KeepBut.trans (by repeat (first | (with_reducible first | exact HK.out | apply KeepBut.set_ | apply keep_drewN | apply keep_drew | apply keep_alloc) | exact HK.out)) hk (.inl rfl)); have n1_ := Aside0.mk (hb); have n2_ := Aside0.mk (hi); clear HK; clear HB; clear HI0; have HK := n0_; have HB := n1_; have HI0 := n2_; clear n0_ n1_ n2_; (try clear hb); (try clear hb2); (try clear hk); (try clear hi); obtain ⟨HGz24, hgz24⟩ := HI0.out; have hcz24_0 := cellS46_0 HGz24; have hcz24_1 := cellS46_1 HGz24; have hcz24_2 := cellS46_2 HGz24; have hfz24_0 := blk_frozen HGz24 0; have hfz24_1 := blk_frozen HGz24 1; have hfz24_2 := blk_frozen HGz24 2; clear HGz24 hgz24)))
              go_ret
              exact ⟨by first | rfl | (simp [errW_none, errW_some] <;> rfl) | (simp only [← hji18]; first | rfl | (simp [errW_none, errW_some] <;> rfl)) | (simp [*, errW_none, errW_some] <;> rfl), by repeat (first | (with_reducible first | exact HI0.out | apply IsS46.alloc | apply IsS46.drewN | apply IsS46.drew | apply IsS46.set_0 | apply IsS46.set_1 | apply IsS46.set_2) | exact HI0.out), by repeat (first | (with_reducible first | exact HB.out | apply below_alloc | apply pw_below_drewN | apply below_drew1 | refine below_set ?_ (IsS46.ge HI0.out)) | exact HB.out), by repeat (first | (with_reducible first | exact HK.out | apply KeepBut.set_ | apply keep_drewN | apply keep_drew | apply keep_alloc) | exact HK.out)⟩
            · rw [if_neg c21] at H
              exact absurd H (by simp)
          · rw [if_neg c20] at H
            exact absurd H (by simp)
        · rw [if_neg c19] at H
          exact absurd H (by simp)
      · rw [if_neg c17] at H
        have c17b0 : (t129 == 0) = false := beq_eq_false_iff_ne.mpr c17
        have c17b1 : (t129 != 0) = true := bne_iff_ne.mpr c17
        simp only [Option.some.injEq, Prod.mk.injEq] at H
        obtain ⟨rfl, rfl, rfl, rfl⟩ := H
        go_enter Try.func16, Try.ntmps16
        go_wp2_with (first | (go_at_call 27; (with_reducible refine (octets_Cursor_Left.calls g s0_0 s0_1 s0_2 t123 t124 t125 t126 w0 _ ?side1 ?side2 A14.out).mono ?_); (case side1 => repeat (first | (with_reducible first | exact HI0.out | apply IsS46.alloc | apply IsS46.drewN | apply IsS46.drew | apply IsS46.set_0 | apply IsS46.set_1 | apply IsS46.set_2) | exact HI0.out)); (case side2 => repeat (first | (with_reducible first | exact HB.out | apply below_alloc | apply pw_below_drewN | apply below_drew1 | refine below_set ?_ (IsS46.ge HI0.out)) | exact HB.out)); rintro e w25 ⟨rfl, hi, hb, hk⟩; have n0_ := Aside0.mk (KeepBut.trans (by repeat (first | (with_reducible first | exact HK.out | apply KeepBut.set_ | apply keep_drewN | apply keep_drew | apply keep_alloc) | exact HK.out)) hk (.inl rfl)); have n1_ := Aside0.mk (hb); have n2_ := Aside0.mk (hi); clear HK; clear HB; clear HI0; have HK := n0_; have HB := n1_; have HI0 := n2_; clear n0_ n1_ n2_; (try clear hb); (try clear hb2); (try clear hk); (try clear hi)) | (go_at_call 33; (with_reducible refine (octets_Cursor_fail.calls g t124 t125 t126 2 t127 t128 t129 w0 _ ?side1 ?side2 A16.out).mono ?_); (case side1 => repeat (first | (with_reducible first | exact HI0.out | apply IsS46.alloc | apply IsS46.drewN | apply IsS46.drew | apply IsS46.set_0 | apply IsS46.set_1 | apply IsS46.set_2) | exact HI0.out)); (case side2 => repeat (first | (with_reducible first | exact HB.out | apply below_alloc | apply pw_below_drewN | apply below_drew1 | refine below_set ?_ (IsS46.ge HI0.out)) | exact HB.out)); rintro e w26 ⟨rfl, hi, hb, hk⟩; have n0_ := Aside0.mk (KeepBut.trans (by repeat (first | (with_reducible first | exact HK.out | apply KeepBut.set_ | apply keep_drewN | apply keep_drew | apply keep_alloc) | exact HK.out)) hk (.inl rfl)); have n1_ := Aside0.mk (hb); have n2_ := Aside0.mk (hi); clear HK; clear HB; clear HI0; have HK := n0_; have HB := n1_; have HI0 := n2_; clear n0_ n1_ n2_; (try clear hb); (try clear hb2); (try clear hk); (try clear hi); obtain ⟨HGz27, hgz27⟩ := HI0.out; have hcz27_0 := cellS46_0 HGz27; have hcz27_1 := cellS46_1 HGz27; have hcz27_2 := cellS46_2 HGz27; have hfz27_0 := blk_frozen HGz27 0; have hfz27_1 := blk_frozen HGz27 1; have hfz27_2 := blk_frozen HGz27 2; clear HGz27 hgz27))
        repeat (go_quiet (first | (go_at_call 27; (with_reducible refine (octets_Cursor_Left.calls g s0_0 s0_1 s0_2 t123 t124 t125 t126 w0 _ ?side1 ?side2 A14.out).mono ?_); (case side1 => repeat (first | (with_reducible first | exact HI0.out | apply IsS46.alloc | apply IsS46.drewN | apply IsS46.drew | apply IsS46.set_0 | apply IsS46.set_1 | apply IsS46.set_2) | exact HI0.out)); (case side2 => repeat (first | (with_reducible first | exact HB.out | apply below_alloc | apply pw_below_drewN | apply below_drew1 | refine below_set ?_ (IsS46.ge HI0.out)) | exact HB.out)); rintro e w25 ⟨rfl, hi, hb, hk⟩; have n0_ := Aside0.mk (KeepBut.trans (by repeat (first | (with_reducible first | exact HK.out | apply KeepBut.set_ | apply keep_drewN | apply keep_drew | apply keep_alloc) | exact HK.out)) hk (.inl rfl)); have n1_ := Aside0.mk (hb); have n2_ := Aside0.mk (hi); clear HK; clear HB; clear HI0; have HK := n0_; have HB := n1_; have HI0 := n2_; clear n0_ n1_ n2_; (try clear hb); (try clear hb2); (try clear hk); (try clear hi)) | (go_at_call 33; (with_reducible refine (octets_Cursor_fail.calls g t124 t125 t126 2 t127 t128 t129 w0 _ ?side1 ?side2 A16.out).mono ?_); (case side1 => repeat (first | (with_reducible first | exact HI0.out | apply IsS46.alloc | apply IsS46.drewN | apply IsS46.drew | apply IsS46.set_0 | apply IsS46.set_1 | apply IsS46.set_2) | exact HI0.out)); (case side2 => repeat (first | (with_reducible first | exact HB.out | apply below_alloc | apply pw_below_drewN | apply below_drew1 | refine below_set ?_ (IsS46.ge HI0.out)) | exact HB.out)); rintro e w26 ⟨rfl, hi, hb, hk⟩; have n0_ := Aside0.mk (KeepBut.trans (by repeat (first | (with_reducible first | exact HK.out | apply KeepBut.set_ | apply keep_drewN | apply keep_drew | apply keep_alloc) | exact HK.out)) hk (.inl rfl)); have n1_ := Aside0.mk (hb); have n2_ := Aside0.mk (hi); clear HK; clear HB; clear HI0; have HK := n0_; have HB := n1_; have HI0 := n2_; clear n0_ n1_ n2_; (try clear hb); (try clear hb2); (try clear hk); (try clear hi); obtain ⟨HGz27, hgz27⟩ := HI0.out; have hcz27_0 := cellS46_0 HGz27; have hcz27_1 := cellS46_1 HGz27; have hcz27_2 := cellS46_2 HGz27; have hfz27_0 := blk_frozen HGz27 0; have hfz27_1 := blk_frozen HGz27 1; have hfz27_2 := blk_frozen HGz27 2; clear HGz27 hgz27)); try go_wp2_with (first | (go_at_call 27; (with_reducible refine (octets_Cursor_Left.calls g s0_0 s0_1 s0_2 t123 t124 t125 t126 w0 _ ?side1 ?side2 A14.out).mono ?_); (case side1 => repeat (first | (with_reducible first | exact HI0.out | apply IsS46.alloc | apply IsS46.drewN | apply IsS46.drew | apply IsS46.set_0 | apply IsS46.set_1 | apply IsS46.set_2) | exact HI0.out)); (case side2 => repeat (first | (with_reducible first | exact HB.out | apply below_alloc | apply pw_below_drewN | apply below_drew1 | refine below_set ?_ (IsS46.ge HI0.out)) | exact HB.out)); rintro e w25 ⟨rfl, hi, hb, hk⟩; have n0_ := Aside0.mk (KeepBut.trans (by repeat (first | (with_reducible first | exact HK.out | apply KeepBut.set_ | apply keep_drewN | apply keep_drew | apply keep_alloc) | exact HK.out)) hk (.inl rfl)); have n1_ := Aside0.mk (hb); have n2_ := Aside0.mk (hi); clear HK; clear HB; clear HI0; have HK := n0_; have HB := n1_; have HI0 := n2_; clear n0_ n1_ n2_; (try clear hb); (try clear hb2); (try clear hk); (try clear hi)) | (go_at_call 33; (with_reducible refine (octets_Cursor_fail.calls g t124 t125 t126 2 t127 t128 t129 w0 _ ?side1 ?side2 A16.out).mono ?_); (case side1 => repeat (first | (with_reducible first | exact HI0.out | apply IsS46.alloc | apply IsS46.drewN | apply IsS46.drew | apply IsS46.set_0 | apply IsS46.set_1 | apply IsS46.set_2) | exact HI0.out)); (case side2 => repeat (first | (with_reducible first | exact HB.out | apply below_alloc | apply pw_below_drewN | apply below_drew1 | refine below_set ?_ (IsS46.ge HI0.out)) | exact HB.out)); rintro e w26 ⟨rfl, hi, hb, hk⟩; have n0_ := Aside0.mk (KeepBut.trans (by repeat (first | (with_reducible first | exact HK.out | apply KeepBut.set_ | apply keep_drewN | apply keep_drew | apply keep_alloc) | exact HK.out)) hk (.inl rfl)); have n1_ := Aside0.mk (hb); have n2_ := Aside0.mk (hi); clear HK; clear HB; clear HI0; have HK := n0_; have HB := n1_; have HI0 := n2_; clear n0_ n1_ n2_; (try clear hb); (try clear hb2); (try clear hk); (try clear hi); obtain ⟨HGz27, hgz27⟩ := HI0.out; have hcz27_0 := cellS46_0 HGz27; have hcz27_1 := cellS46_1 HGz27; have hcz27_2 := cellS46_2 HGz27; have hfz27_0 := blk_frozen HGz27 0; have hfz27_1 := blk_frozen HGz27 1; have hfz27_2 := blk_frozen HGz27 2; clear HGz27 hgz27)))
        go_ret
        exact ⟨by first | rfl | (simp [errW_none, errW_some] <;> rfl) | (simp [*, errW_none, errW_some] <;> rfl), by repeat (first | (with_reducible first | exact HI0.out | apply IsS46.alloc | apply IsS46.drewN | apply IsS46.drew | apply IsS46.set_0 | apply IsS46.set_1 | apply IsS46.set_2) | exact HI0.out), by repeat (first | (with_reducible first | exact HB.out | apply below_alloc | apply pw_below_drewN | apply below_drew1 | refine below_set ?_ (IsS46.ge HI0.out)) | exact HB.out), by repeat (first | (with_reducible first | exact HK.out | apply KeepBut.set_ | apply keep_drewN | apply keep_drew | apply keep_alloc) | exact HK.out)⟩
    · rw [if_neg c15] at H
      have c15b0 : decide (t123 < a1) = false := decide_eq_false c15
      clear c15
      by_cases c28 : t126 = 0
      · rw [if_pos c28] at H
        have c28b0 : (t126 == 0) = true := beq_iff_eq.mpr c28
        have c28b1 : (t126 != 0) = false := bne_eq_false_iff_eq.mpr c28
        clear c28
        obtain ⟨ji29, hji29⟩ : ∃ j_ : Int, (wrap64 ((wrap64 (t125 + a1)) - a1)) = j_ := ⟨_, rfl⟩
        replace H : (if 0 ≤ (ji29) then (if (ji29) ≤ (wrap64 (t125 + a1)) then (if (wrap64 (t125 + a1)) ≤ (t124.size : Int) then (some (t124.extract ((ji29) : Int).toNat ((wrap64 (t125 + a1)) : Int).toNat, t124, wrap64 (t125 + a1), t126)) else (none)) else (none)) else (none)) = some (r1, r2, r3, r4) := by first | (rw [hji29] at H; exact H) | (simp only [hji29] at H ⊢; exact H)
        (try rw [hji29] at A14)
        have hji29w : (IntKind.i64.wrap ((wrap64 (t125 + a1)) - a1)) = ji29 := (i64_w _).trans hji29
        by_cases c30 : 0 ≤ (ji29)
        · rw [if_pos c30] at H
          have c30b0 := eq_true c30
          have c30b1 : decide (0 ≤ (ji29)) = true := decide_eq_true c30
          clear c30
          by_cases c31 : (ji29) ≤ (wrap64 (t125 + a1))
          · rw [if_pos c31] at H
            have c31b0 := eq_true c31
            have c31b1 : decide ((ji29) ≤ (wrap64 (t125 + a1))) = true := decide_eq_true c31
            by_cases c32 : (wrap64 (t125 + a1)) ≤ (t124.size : Int)
            · rw [if_pos c32] at H
              have c32b0 := eq_true c32
              have c32b1 : decide ((wrap64 (t125 + a1)) ≤ (t124.size : Int)) = true := decide_eq_true c32
              simp only [Option.some.injEq, Prod.mk.injEq] at H
              obtain ⟨rfl, rfl, rfl, rfl⟩ := H
              go_enter Try.func16, Try.ntmps16
              go_wp2_with (first | (go_at_call 27; (with_reducible refine (octets_Cursor_Left.calls g s0_0 s0_1 s0_2 t123 t124 t125 t126 w0 _ ?side1 ?side2 A14.out).mono ?_); (case side1 => repeat (first | (with_reducible first | exact HI0.out | apply IsS46.alloc | apply IsS46.drewN | apply IsS46.drew | apply IsS46.set_0 | apply IsS46.set_1 | apply IsS46.set_2) | exact HI0.out)); (case side2 => repeat (first | (with_reducible first | exact HB.out | apply below_alloc | apply pw_below_drewN | apply below_drew1 | refine below_set ?_ (IsS46.ge HI0.out)) | exact HB.out)); rintro e w33 ⟨rfl, hi, hb, hk⟩; have n0_ := Aside0.mk (KeepBut.trans (by repeat (first | (with_reducible first | exact HK.out | apply KeepBut.set_ | apply keep_drewN | apply keep_drew | apply keep_alloc) | exact HK.out)) hk (.inl rfl)); have n1_ := Aside0.mk (hb); have n2_ := Aside0.mk (hi); clear HK; clear HB; clear HI0; have HK := n0_; have HB := n1_; have HI0 := n2_; clear n0_ n1_ n2_; (try clear hb); (try clear hb2); (try clear hk); (try clear hi); obtain ⟨HGz34, hgz34⟩ := HI0.out; have hcz34_0 := cellS46_0 HGz34; have hcz34_1 := cellS46_1 HGz34; have hcz34_2 := cellS46_2 HGz34; have hfz34_0 := blk_frozen HGz34 0; have hfz34_1 := blk_frozen HGz34 1; have hfz34_2 := blk_frozen HGz34 2; clear HGz34 hgz34))
              repeat (go_quiet (first | (go_at_call 27; (with_reducible refine (octets_Cursor_Left.calls g s0_0 s0_1 s0_2 t123 t124 t125 t126 w0 _ ?side1 ?side2 A14.out).mono ?_); (case side1 => repeat (first | (with_reducible first | exact HI0.out | apply IsS46.alloc | apply IsS46.drewN | apply IsS46.drew | apply IsS46.set_0 | apply IsS46.set_1 | apply IsS46.set_2) | exact HI0.out)); (case side2 => repeat (first | (with_reducible first | exact HB.out | apply below_alloc | apply pw_below_drewN | apply below_drew1 | refine below_set ?_ (IsS46.ge HI0.out)) | exact HB.out)); rintro e w33 ⟨rfl, hi, hb, hk⟩; have n0_ := Aside0.mk (KeepBut.trans (by repeat (first | (with_reducible first | exact HK.out | apply KeepBut.set_ | apply keep_drewN | apply keep_drew | apply keep_alloc) | exact HK.out)) hk (.inl rfl)); have n1_ := Aside0.mk (hb); have n2_ := Aside0.mk (hi); clear HK; clear HB; clear HI0; have HK := n0_; have HB := n1_; have HI0 := n2_; clear n0_ n1_ n2_; (try clear hb); (try clear hb2); (try clear hk); (try clear hi); obtain ⟨HGz34, hgz34⟩ := HI0.out; have hcz34_0 := cellS46_0 HGz34; have hcz34_1 := cellS46_1 HGz34; have hcz34_2 := cellS46_2 HGz34; have hfz34_0 := blk_frozen HGz34 0; have hfz34_1 := blk_frozen HGz34 1; have hfz34_2 := blk_frozen HGz34 2; clear HGz34 hgz34)); try go_wp2_with (first | (go_at_call 27; (with_reducible refine (octets_Cursor_Left.calls g s0_0 s0_1 s0_2 t123 t124 t125 t126 w0 _ ?side1 ?side2 A14.out).mono ?_); (case side1 => repeat (first | (with_reducible first | exact HI0.out | apply IsS46.alloc | apply IsS46.drewN | apply IsS46.drew | apply IsS46.set_0 | apply IsS46.set_1 | apply IsS46.set_2) | exact HI0.out)); (case side2 => repeat (first | (with_reducible first | exact HB.out | apply below_alloc | apply pw_below_drewN | apply below_drew1 | refine below_set ?_ (IsS46.ge HI0.out)) | exact HB.out)); rintro e w33 ⟨rfl, hi, hb, hk⟩; have n0_ := Aside0.mk (KeepBut.trans (by repeat (first | (with_reducible first | exact HK.out | apply KeepBut.set_ | apply keep_drewN | apply keep_drew | apply keep_alloc) | exact HK.out)) hk (.inl rfl)); have n1_ := Aside0.mk (hb); have n2_ := Aside0.mk (hi); clear HK; clear HB; clear HI0; have HK := n0_; have HB := n1_; have HI0 := n2_; clear n0_ n1_ n2_; (try clear hb); (try clear hb2); (try clear hk); (try clear hi); obtain ⟨HGz34, hgz34⟩ := HI0.out; have hcz34_0 := cellS46_0 HGz34; have hcz34_1 := cellS46_1 HGz34; have hcz34_2 := cellS46_2 HGz34; have hfz34_0 := blk_frozen HGz34 0; have hfz34_1 := blk_frozen HGz34 1; have hfz34_2 := blk_frozen HGz34 2; clear HGz34 hgz34)))
              go_ret
              exact ⟨by first | rfl | (simp [errW_none, errW_some] <;> rfl) | (simp only [← hji29]; first | rfl | (simp [errW_none, errW_some] <;> rfl)) | (simp [*, errW_none, errW_some] <;> rfl), by repeat (first | (with_reducible first | exact HI0.out | apply IsS46.alloc | apply IsS46.drewN | apply IsS46.drew | apply IsS46.set_0 | apply IsS46.set_1 | apply IsS46.set_2) | exact HI0.out), by repeat (first | (with_reducible first | exact HB.out | apply below_alloc | apply pw_below_drewN | apply below_drew1 | refine below_set ?_ (IsS46.ge HI0.out)) | exact HB.out), by repeat (first | (with_reducible first | exact HK.out | apply KeepBut.set_ | apply keep_drewN | apply keep_drew | apply keep_alloc) | exact HK.out)⟩
            · rw [if_neg c32] at H
              exact absurd H (by simp)
          · rw [if_neg c31] at H
            exact absurd H (by simp)
        · rw [if_neg c30] at H
          exact absurd H (by simp)
      · rw [if_neg c28] at H
        have c28b0 : (t126 == 0) = false := beq_eq_false_iff_ne.mpr c28
        have c28b1 : (t126 != 0) = true := bne_iff_ne.mpr c28
        simp only [Option.some.injEq, Prod.mk.injEq] at H
        obtain ⟨rfl, rfl, rfl, rfl⟩ := H
        go_enter Try.func16, Try.ntmps16
        go_wp2_with (first | (go_at_call 27; (with_reducible refine (octets_Cursor_Left.calls g s0_0 s0_1 s0_2 t123 t124 t125 t126 w0 _ ?side1 ?side2 A14.out).mono ?_); (case side1 => repeat (first | (with_reducible first | exact HI0.out | apply IsS46.alloc | apply IsS46.drewN | apply IsS46.drew | apply IsS46.set_0 | apply IsS46.set_1 | apply IsS46.set_2) | exact HI0.out)); (case side2 => repeat (first | (with_reducible first | exact HB.out | apply below_alloc | apply pw_below_drewN | apply below_drew1 | refine below_set ?_ (IsS46.ge HI0.out)) | exact HB.out)); rintro e w35 ⟨rfl, hi, hb, hk⟩; have n0_ := Aside0.mk (KeepBut.trans (by repeat (first | (with_reducible first | exact HK.out | apply KeepBut.set_ | apply keep_drewN | apply keep_drew | apply keep_alloc) | exact HK.out)) hk (.inl rfl)); have n1_ := Aside0.mk (hb); have n2_ := Aside0.mk (hi); clear HK; clear HB; clear HI0; have HK := n0_; have HB := n1_; have HI0 := n2_; clear n0_ n1_ n2_; (try clear hb); (try clear hb2); (try clear hk); (try clear hi); obtain ⟨HGz36, hgz36⟩ := HI0.out; have hcz36_0 := cellS46_0 HGz36; have hcz36_1 := cellS46_1 HGz36; have hcz36_2 := cellS46_2 HGz36; have hfz36_0 := blk_frozen HGz36 0; have hfz36_1 := blk_frozen HGz36 1; have hfz36_2 := blk_frozen HGz36 2; clear HGz36 hgz36))
        repeat (go_quiet (first | (go_at_call 27; (with_reducible refine (octets_Cursor_Left.calls g s0_0 s0_1 s0_2 t123 t124 t125 t126 w0 _ ?side1 ?side2 A14.out).mono ?_); (case side1 => repeat (first | (with_reducible first | exact HI0.out | apply IsS46.alloc | apply IsS46.drewN | apply IsS46.drew | apply IsS46.set_0 | apply IsS46.set_1 | apply IsS46.set_2) | exact HI0.out)); (case side2 => repeat (first | (with_reducible first | exact HB.out | apply below_alloc | apply pw_below_drewN | apply below_drew1 | refine below_set ?_ (IsS46.ge HI0.out)) | exact HB.out)); rintro e w35 ⟨rfl, hi, hb, hk⟩; have n0_ := Aside0.mk (KeepBut.trans (by repeat (first | (with_reducible first | exact HK.out | apply KeepBut.set_ | apply keep_drewN | apply keep_drew | apply keep_alloc) | exact HK.out)) hk (.inl rfl)); have n1_ := Aside0.mk (hb); have n2_ := Aside0.mk (hi); clear HK; clear HB; clear HI0; have HK := n0_; have HB := n1_; have HI0 := n2_; clear n0_ n1_ n2_; (try clear hb); (try clear hb2); (try clear hk); (try clear hi); obtain ⟨HGz36, hgz36⟩ := HI0.out; have hcz36_0 := cellS46_0 HGz36; have hcz36_1 := cellS46_1 HGz36; have hcz36_2 := cellS46_2 HGz36; have hfz36_0 := blk_frozen HGz36 0; have hfz36_1 := blk_frozen HGz36 1; have hfz36_2 := blk_frozen HGz36 2; clear HGz36 hgz36)); try go_wp2_with (first | (go_at_call 27; (with_reducible refine (octets_Cursor_Left.calls g s0_0 s0_1 s0_2 t123 t124 t125 t126 w0 _ ?side1 ?side2 A14.out).mono ?_); (case side1 => repeat (first | (with_reducible first | exact HI0.out | apply IsS46.alloc | apply IsS46.drewN | apply IsS46.drew | apply IsS46.set_0 | apply IsS46.set_1 | apply IsS46.set_2) | exact HI0.out)); (case side2 => repeat (first | (with_reducible first | exact HB.out | apply below_alloc | apply pw_below_drewN | apply below_drew1 | refine below_set ?_ (IsS46.ge HI0.out)) | exact HB.out)); rintro e w35 ⟨rfl, hi, hb, hk⟩; have n0_ := Aside0.mk (KeepBut.trans (by repeat (first | (with_reducible first | exact HK.out | apply KeepBut.set_ | apply keep_drewN | apply keep_drew | apply keep_alloc) | exact HK.out)) hk (.inl rfl)); have n1_ := Aside0.mk (hb); have n2_ := Aside0.mk (hi); clear HK; clear HB; clear HI0; have HK := n0_; have HB := n1_; have HI0 := n2_; clear n0_ n1_ n2_; (try clear hb); (try clear hb2); (try clear hk); (try clear hi); obtain ⟨HGz36, hgz36⟩ := HI0.out; have hcz36_0 := cellS46_0 HGz36; have hcz36_1 := cellS46_1 HGz36; have hcz36_2 := cellS46_2 HGz36; have hfz36_0 := blk_frozen HGz36 0; have hfz36_1 := blk_frozen HGz36 1; have hfz36_2 := blk_frozen HGz36 2; clear HGz36 hgz36)))
        go_ret
        exact ⟨by first | rfl | (simp [errW_none, errW_some] <;> rfl) | (simp [*, errW_none, errW_some] <;> rfl), by repeat (first | (with_reducible first | exact HI0.out | apply IsS46.alloc | apply IsS46.drewN | apply IsS46.drew | apply IsS46.set_0 | apply IsS46.set_1 | apply IsS46.set_2) | exact HI0.out), by repeat (first | (with_reducible first | exact HB.out | apply below_alloc | apply pw_below_drewN | apply below_drew1 | refine below_set ?_ (IsS46.ge HI0.out)) | exact HB.out), by repeat (first | (with_reducible first | exact HK.out | apply KeepBut.set_ | apply keep_drewN | apply keep_drew | apply keep_alloc) | exact HK.out)⟩

-- NOT PRINTED: function 34 (octets_Cursor_number)

/-! ### octets_Cursor_Int: function 20 -/
def octets_leK (l : List Int) : Nat → Int
  | 0 => 0
  | k + 1 => Go.bits .or .i64 (octets_leK l k) (wrap64 (l.getD k 0 * 2 ^ (8 * k)))
def octets_turnT (s : ByteArray) : ByteArray := strOfNums (bytesOf s).reverse
theorem octets_turnT_ok (s : ByteArray) (w : World) (hs : s.size ≤ 4) : Hid ((octets_turnT s).size ≤ 4 ∧ Calls Try.prog 29 #[.string s] w fun e w' => e = .returned (.string (octets_turnT s)) ∧ Below w.heap.size w w') :=
  Lib.hid ⟨by unfold octets_turnT; rw [strOfNums_size, List.length_reverse, bytesOf_length]; exact hs, octets_turned.calls s _ w (by unfold octets_turned.f; rw [if_pos (by omega)]; rfl)⟩
/-- What a number of bytes is, the least byte first, as the loop reckons it. -/
def octets_numberT.f (s0_0 : ByteArray) (s0_1 s0_2 : Int) (a1 : Int) : Option (Int × ByteArray × Int × Int) :=
  (octets_wide.f a1).bind fun wd => (if wd = true then some (s0_0, s0_1, s0_2) else octets_Cursor_fail.f s0_0 s0_1 s0_2 1).bind fun st =>
  (octets_Cursor_Bytes.f st.1 st.2.1 st.2.2 a1).bind fun r => if r.1.size ≤ 4 then some (octets_leK (bytesOf (octets_turnT r.1)) (octets_turnT r.1).size, r.2.1, r.2.2.1, r.2.2.2) else none
section
open Go.Sort Go.Lib
set_option maxHeartbeats 1600000 in
set_option maxRecDepth 100000 in
theorem octets_numberT.calls (hT : ∀ (s : ByteArray) (w : World), s.size ≤ 4 → Hid ((octets_turnT s).size ≤ 4 ∧ Calls Try.prog 29 #[.string s] w fun e w' => e = .returned (.string (octets_turnT s)) ∧ Below w.heap.size w w'))
    (g : Nat) (s0_0 : ByteArray) (s0_1 s0_2 a1 : Int) (r1 : Int) (r2 : ByteArray) (r3 r4 : Int) (w0 w : World) (hI : IsS46 w0 w g s0_0 s0_1 s0_2) (hB : Below w0.heap.size w0 w)
    (h : octets_numberT.f s0_0 s0_1 s0_2 a1 = some (r1, r2, r3, r4)) :
    Calls Try.prog 34 #[.pointer (some ⟨g, 0, none⟩), .int .i64 a1, .func (.func 29) #[] #[]] w fun e w' => e = .returned (.int .i64 r1) ∧ IsS46 w0 w' g r2 r3 r4 ∧ Below w0.heap.size w0 w' ∧ KeepBut w w' g none := by
  have HI := Lib.hid hI
  have HB := Lib.hid hB
  clear hI hB
  unfold octets_numberT.f at h
  obtain ⟨wd, hw, h⟩ := Option.bind_eq_some_iff.mp h
  obtain ⟨⟨p0, p1, p2⟩, hf, h⟩ := Option.bind_eq_some_iff.mp h
  obtain ⟨⟨b1, b2, b3, b4⟩, hb, h⟩ := Option.bind_eq_some_iff.mp h
  dsimp only at hb h
  split at h
  case isFalse => exact absurd h (by simp)
  case isTrue hr =>
  simp only [Option.some.injEq, Prod.mk.injEq] at h
  obtain ⟨h1, rfl, rfl, rfl⟩ := h
  have HW := Lib.hid hw
  have HH := Lib.hid hb
  have H1 := Lib.hid h1
  clear hw hb h1
  have HT := hT b1
  clear hT
  cases wd with
  | true =>
    rw [if_pos rfl] at hf
    simp only [Option.some.injEq, Prod.mk.injEq] at hf
    obtain ⟨rfl, rfl, rfl⟩ := hf
    go_enter Try.func34, Try.ntmps34
    go_wp2_with (first | (go_at_call 32; refine (octets_wide.calls a1 true _ HW.out).mono ?_; rintro e w' ⟨rfl, ⟨nd, rfl⟩⟩) | (go_at_call 16; refine (octets_Cursor_Bytes.calls g s0_0 s0_1 s0_2 a1 b1 b2 b3 b4 w0 _ (IsS46.drewN HI.out nd) (pw_below_drewN HB.out nd) HH.out).mono ?_; rintro e w1 ⟨rfl, hi, hb, hk⟩; have HI1 := Lib.hid hi; have HB1 := Lib.hid hb; have HK1 := Lib.hid (KeepBut.trans (keep_drewN (KeepBut.refl w g none) nd) hk (.inl rfl)); clear hi hb hk) | (go_at_call 29; obtain ⟨ht1, ht2⟩ := (HT w1 hr).out; clear HT; refine ht2.mono ?_; clear ht2; rintro e w2 ⟨rfl, hb⟩; have HB2 := Lib.hid hb; clear hb; have hcv := fun wx => Go.Lib.run_convert_string_bytes (P := Try.prog) wx 9 43 5 (octets_turnT b1) Try.underlying9 Try.underlying43 Try.underlying5))
    have hl : (bytesOf (octets_turnT b1)).length = (octets_turnT b1).size := bytesOf_length _
    have HL := Lib.hid hl
    have HC : ∀ k, k < (octets_turnT b1).size → Hid ((Lib.bytesWorld w2 5 (octets_turnT b1)).cell? ⟨w2.heap.size, k, none⟩ = some (.int .u8 ((bytesOf (octets_turnT b1)).getD k 0)) ∧ 0 ≤ (bytesOf (octets_turnT b1)).getD k 0 ∧ (bytesOf (octets_turnT b1)).getD k 0 ≤ 255) := by
      intro k hk
      refine Lib.hid ⟨?_, ?_, ?_⟩
      · rw [Lib.bytesWorld_cell w2 5 (octets_turnT b1) k hk]
        simp [bytesOf, List.getD, List.getElem?_eq_getElem, hk]
      · simp [bytesOf, List.getD, List.getElem?_eq_getElem, hk]
      · have : ((octets_turnT b1).data.toList.getD k 0).toNat < 256 := UInt8.toNat_lt _
        simp [bytesOf, List.getD, List.getElem?_eq_getElem, hk] at this ⊢
        omega
    clear hl hcv
    generalize octets_turnT b1 = V at *
    go_loop [7, 22] (fun n i => ∃ k : Nat, k ≤ V.size ∧ i = .int .i64 k ∧ n = .int .i64 (octets_leK (bytesOf V) k)) (fun _ i => V.size - (RowKit.intOf i).toNat)
    case atStart => exact ⟨0, Nat.zero_le _, rfl, rfl⟩
    case round =>
      obtain ⟨k, hk, rfl, rfl⟩ := hrel
      by_cases hlt : k < V.size
      · obtain ⟨hc, hb0, hb1⟩ := (HC k hlt).out
        clear HC
        have h4 : k ≤ 3 := by omega
        have hn : octets_leK (bytesOf V) (k + 1) = Go.bits .or .i64 (octets_leK (bytesOf V) k) (wrap64 ((bytesOf V).getD k 0 * 2 ^ (8 * k))) := rfl
        generalize (bytesOf V).getD k 0 = b at *
        have HN := Lib.hid hn
        clear hn
        go_wp2
        go_round
        case rel => exact ⟨k + 1, by omega, by go_num, by rw [HN.out]⟩
        case measure => simp [RowKit.intOf]; omega
      · obtain rfl : k = V.size := by omega
        clear HC
        go_wp2
        go_ret
        have hB2 : Below w1.heap.size w1 (Lib.bytesWorld w2 5 V) := HB2.out.trans ((bytesWorld_below w2 5 V).mono HB2.out.size)
        exact ⟨by rw [← H1.out]; rfl, IsS46.below HI1.out hB2, HB1.out.trans (hB2.mono HB1.out.size), HK1.out.trans (KeepBut.of_below hB2 g none) (.inl rfl)⟩
  | false =>
    rw [if_neg (by decide)] at hf
    have HF := Lib.hid hf
    clear hf
    go_enter Try.func34, Try.ntmps34
    go_wp2_with (first | (go_at_call 32; refine (octets_wide.calls a1 false _ HW.out).mono ?_; rintro e w' ⟨rfl, ⟨nd, rfl⟩⟩) | (go_at_call 33; refine (octets_Cursor_fail.calls g s0_0 s0_1 s0_2 1 p0 p1 p2 w0 _ (IsS46.drewN HI.out nd) (pw_below_drewN HB.out nd) HF.out).mono ?_; rintro e wf ⟨rfl, hi, hb, hk⟩; have HIf := Lib.hid hi; have HBf := Lib.hid hb; have HKf := Lib.hid (KeepBut.trans (keep_drewN (KeepBut.refl w g none) nd) hk (.inl rfl)); clear hi hb hk) | (go_at_call 16; refine (octets_Cursor_Bytes.calls g p0 p1 p2 a1 b1 b2 b3 b4 w0 _ HIf.out HBf.out HH.out).mono ?_; rintro e w1 ⟨rfl, hi, hb, hk⟩; have HI1 := Lib.hid hi; have HB1 := Lib.hid hb; have HK1 := Lib.hid (HKf.out.trans hk (.inl rfl)); clear hi hb hk) | (go_at_call 29; obtain ⟨ht1, ht2⟩ := (HT w1 hr).out; clear HT; refine ht2.mono ?_; clear ht2; rintro e w2 ⟨rfl, hb⟩; have HB2 := Lib.hid hb; clear hb; have hcv := fun wx => Go.Lib.run_convert_string_bytes (P := Try.prog) wx 9 43 5 (octets_turnT b1) Try.underlying9 Try.underlying43 Try.underlying5))
    have hl : (bytesOf (octets_turnT b1)).length = (octets_turnT b1).size := bytesOf_length _
    have HL := Lib.hid hl
    have HC : ∀ k, k < (octets_turnT b1).size → Hid ((Lib.bytesWorld w2 5 (octets_turnT b1)).cell? ⟨w2.heap.size, k, none⟩ = some (.int .u8 ((bytesOf (octets_turnT b1)).getD k 0)) ∧ 0 ≤ (bytesOf (octets_turnT b1)).getD k 0 ∧ (bytesOf (octets_turnT b1)).getD k 0 ≤ 255) := by
      intro k hk
      refine Lib.hid ⟨?_, ?_, ?_⟩
      · rw [Lib.bytesWorld_cell w2 5 (octets_turnT b1) k hk]
        simp [bytesOf, List.getD, List.getElem?_eq_getElem, hk]
      · simp [bytesOf, List.getD, List.getElem?_eq_getElem, hk]
      · have : ((octets_turnT b1).data.toList.getD k 0).toNat < 256 := UInt8.toNat_lt _
        simp [bytesOf, List.getD, List.getElem?_eq_getElem, hk] at this ⊢
        omega
    clear hl hcv
    generalize octets_turnT b1 = V at *
    go_loop [7, 22] (fun n i => ∃ k : Nat, k ≤ V.size ∧ i = .int .i64 k ∧ n = .int .i64 (octets_leK (bytesOf V) k)) (fun _ i => V.size - (RowKit.intOf i).toNat)
    case atStart => exact ⟨0, Nat.zero_le _, rfl, rfl⟩
    case round =>
      obtain ⟨k, hk, rfl, rfl⟩ := hrel
      by_cases hlt : k < V.size
      · obtain ⟨hc, hb0, hb1⟩ := (HC k hlt).out
        clear HC
        have h4 : k ≤ 3 := by omega
        have hn : octets_leK (bytesOf V) (k + 1) = Go.bits .or .i64 (octets_leK (bytesOf V) k) (wrap64 ((bytesOf V).getD k 0 * 2 ^ (8 * k))) := rfl
        generalize (bytesOf V).getD k 0 = b at *
        have HN := Lib.hid hn
        clear hn
        go_wp2
        go_round
        case rel => exact ⟨k + 1, by omega, by go_num, by rw [HN.out]⟩
        case measure => simp [RowKit.intOf]; omega
      · obtain rfl : k = V.size := by omega
        clear HC
        go_wp2
        go_ret
        have hB2 : Below w1.heap.size w1 (Lib.bytesWorld w2 5 V) := HB2.out.trans ((bytesWorld_below w2 5 V).mono HB2.out.size)
        exact ⟨by rw [← H1.out]; rfl, IsS46.below HI1.out hB2, HB1.out.trans (hB2.mono HB1.out.size), HK1.out.trans (KeepBut.of_below hB2 g none) (.inl rfl)⟩
end

def octets_Cursor_Int.f (s0_0 : ByteArray) (s0_1 : Int) (s0_2 : Int) (a1 : Int) : Option (Int × ByteArray × Int × Int) := octets_numberT.f s0_0 s0_1 s0_2 a1
theorem octets_Cursor_Int.calls (g : Nat) (s0_0 : ByteArray) (s0_1 : Int) (s0_2 : Int) (a1 : Int) (r1 : Int) (r2 : ByteArray) (r3 : Int) (r4 : Int) (w0 w : World) (hI : IsS46 w0 w g s0_0 s0_1 s0_2) (hB : Below w0.heap.size w0 w) (h : octets_Cursor_Int.f s0_0 s0_1 s0_2 a1 = some (r1, r2, r3, r4)) :
    Calls Try.prog 20 #[.pointer (some ⟨g, 0, none⟩), .int .i64 a1] w fun e w' => e = .returned (.int .i64 r1) ∧ IsS46 w0 w' g r2 r3 r4 ∧ Below w0.heap.size w0 w' ∧ KeepBut w w' g none := by
  have HX := Lib.hid (octets_numberT.calls octets_turnT_ok g s0_0 s0_1 s0_2 a1 r1 r2 r3 r4 w0 w hI hB h)
  clear hI hB h
  go_enter Try.func20, Try.ntmps20
  go_wp2_with (go_at_call 34; refine HX.out.mono ?_; rintro e w' ⟨rfl, hi, hb, hk⟩; have HP := Lib.hid (And.intro hi (And.intro hb hk)); clear hi hb hk)
  go_ret
  exact ⟨rfl, HP.out⟩

/-! ### miradorlaw01_works: function 8 -/
def miradorlaw01_works.f (k : Nat)  : Option (Bool) := (octets_Put.f k 2 258).bind fun bt130 => ((octets_Little.f k 2 258).bind fun bt132 => ((octets_Put.f k 3 1).bind fun bt134 => ((octets_New.f (⟨#[1, 2, 3]⟩ : ByteArray)).bind fun bt136 => ((octets_Cursor_Int.f bt136.1 bt136.2.1 bt136.2.2 2).bind fun bt140 => (if bt130.1.toList = ([1, 2] : List UInt8) then (if bt130.2 = 0 then (if bt132.1.toList = ([2, 1] : List UInt8) then (if bt132.2 = 0 then (if bt134.2 = 1 then ((octets_Signed.f k (-1)).bind fun t144 => (if t144.toList = ([255, 255, 255, 255] : List UInt8) then (if bt140.1 = 258 then ((octets_Cursor_Left.f bt140.2.1 bt140.2.2.1 bt140.2.2.2).bind fun bt145 => (if bt145.1 = 1 then ((octets_Cursor_At.f bt145.2.1 bt145.2.2.1 bt145.2.2.2).bind fun bt149 => (if bt149.1 = 2 then ((octets_Cursor_End.f bt149.2.1 bt149.2.2.1 bt149.2.2.2).bind fun bt153 => (some (bt153.1 == 3))) else (some false))) else (some false))) else (some false)) else (some false))) else (some false)) else (some false)) else (some false)) else (some false)) else (some false))))))
theorem miradorlaw01_works.mono : ∀ k, LeO (miradorlaw01_works.f k ) (miradorlaw01_works.f (k + 1) ) := by
  intro  k
  unfold miradorlaw01_works.f
  repeat' first
      | (with_reducible exact octets_Little.mono _ _ _)
      | (with_reducible exact octets_Put.mono _ _ _)
      | (with_reducible exact octets_Signed.mono _ _)
      | (with_reducible exact LeO.refl _)
      | (with_reducible exact LeO.none _)
      | (with_reducible refine LeO.ite ?_ ?_)
      | (with_reducible refine LeO.bind ?_ (fun _ => ?_))
      | exact octets_Little.mono _ _ _
      | exact octets_Put.mono _ _ _
      | exact octets_Signed.mono _ _
      | exact LeO.none _
      | refine LeO.ite ?_ ?_
      | refine LeO.bind ?_ (fun _ => ?_)
set_option maxHeartbeats 8000000 in
set_option maxRecDepth 100000 in
theorem miradorlaw01_works.calls (k : Nat)  (r : Bool) (w : World) (h : miradorlaw01_works.f k  = some r) :
    Calls Try.prog 8 #[] w fun e w' => e = .returned (.bool r) ∧ Below w.heap.size w w' := by
  have HB := Aside0.mk (Below.refl w.heap.size w)
  have H : ((octets_Put.f k 2 258).bind fun bt130 => ((octets_Little.f k 2 258).bind fun bt132 => ((octets_Put.f k 3 1).bind fun bt134 => ((octets_New.f (⟨#[1, 2, 3]⟩ : ByteArray)).bind fun bt136 => ((octets_Cursor_Int.f bt136.1 bt136.2.1 bt136.2.2 2).bind fun bt140 => (if bt130.1.toList = ([1, 2] : List UInt8) then (if bt130.2 = 0 then (if bt132.1.toList = ([2, 1] : List UInt8) then (if bt132.2 = 0 then (if bt134.2 = 1 then ((octets_Signed.f k (-1)).bind fun t144 => (if t144.toList = ([255, 255, 255, 255] : List UInt8) then (if bt140.1 = 258 then ((octets_Cursor_Left.f bt140.2.1 bt140.2.2.1 bt140.2.2.2).bind fun bt145 => (if bt145.1 = 1 then ((octets_Cursor_At.f bt145.2.1 bt145.2.2.1 bt145.2.2.2).bind fun bt149 => (if bt149.1 = 2 then ((octets_Cursor_End.f bt149.2.1 bt149.2.2.1 bt149.2.2.2).bind fun bt153 => (some (bt153.1 == 3))) else (some false))) else (some false))) else (some false)) else (some false))) else (some false)) else (some false)) else (some false)) else (some false)) else (some false))))))) = some r := h
  clear h
  replace H := Option.bind_eq_some_iff.mp H
  obtain ⟨⟨t130, t131⟩, A10, H⟩ := H
  replace H : ((octets_Little.f k 2 258).bind fun bt132 => ((octets_Put.f k 3 1).bind fun bt134 => ((octets_New.f (⟨#[1, 2, 3]⟩ : ByteArray)).bind fun bt136 => ((octets_Cursor_Int.f bt136.1 bt136.2.1 bt136.2.2 2).bind fun bt140 => (if t130.toList = ([1, 2] : List UInt8) then (if t131 = 0 then (if bt132.1.toList = ([2, 1] : List UInt8) then (if bt132.2 = 0 then (if bt134.2 = 1 then ((octets_Signed.f k (-1)).bind fun t144 => (if t144.toList = ([255, 255, 255, 255] : List UInt8) then (if bt140.1 = 258 then ((octets_Cursor_Left.f bt140.2.1 bt140.2.2.1 bt140.2.2.2).bind fun bt145 => (if bt145.1 = 1 then ((octets_Cursor_At.f bt145.2.1 bt145.2.2.1 bt145.2.2.2).bind fun bt149 => (if bt149.1 = 2 then ((octets_Cursor_End.f bt149.2.1 bt149.2.2.1 bt149.2.2.2).bind fun bt153 => (some (bt153.1 == 3))) else (some false))) else (some false))) else (some false)) else (some false))) else (some false)) else (some false)) else (some false)) else (some false)) else (some false)))))) = some r := H
  have A1 := Aside0.mk A10
  clear A10
  replace H := Option.bind_eq_some_iff.mp H
  obtain ⟨⟨t132, t133⟩, A20, H⟩ := H
  replace H : ((octets_Put.f k 3 1).bind fun bt134 => ((octets_New.f (⟨#[1, 2, 3]⟩ : ByteArray)).bind fun bt136 => ((octets_Cursor_Int.f bt136.1 bt136.2.1 bt136.2.2 2).bind fun bt140 => (if t130.toList = ([1, 2] : List UInt8) then (if t131 = 0 then (if t132.toList = ([2, 1] : List UInt8) then (if t133 = 0 then (if bt134.2 = 1 then ((octets_Signed.f k (-1)).bind fun t144 => (if t144.toList = ([255, 255, 255, 255] : List UInt8) then (if bt140.1 = 258 then ((octets_Cursor_Left.f bt140.2.1 bt140.2.2.1 bt140.2.2.2).bind fun bt145 => (if bt145.1 = 1 then ((octets_Cursor_At.f bt145.2.1 bt145.2.2.1 bt145.2.2.2).bind fun bt149 => (if bt149.1 = 2 then ((octets_Cursor_End.f bt149.2.1 bt149.2.2.1 bt149.2.2.2).bind fun bt153 => (some (bt153.1 == 3))) else (some false))) else (some false))) else (some false)) else (some false))) else (some false)) else (some false)) else (some false)) else (some false)) else (some false))))) = some r := H
  have A2 := Aside0.mk A20
  clear A20
  replace H := Option.bind_eq_some_iff.mp H
  obtain ⟨⟨t134, t135⟩, A30, H⟩ := H
  replace H : ((octets_New.f (⟨#[1, 2, 3]⟩ : ByteArray)).bind fun bt136 => ((octets_Cursor_Int.f bt136.1 bt136.2.1 bt136.2.2 2).bind fun bt140 => (if t130.toList = ([1, 2] : List UInt8) then (if t131 = 0 then (if t132.toList = ([2, 1] : List UInt8) then (if t133 = 0 then (if t135 = 1 then ((octets_Signed.f k (-1)).bind fun t144 => (if t144.toList = ([255, 255, 255, 255] : List UInt8) then (if bt140.1 = 258 then ((octets_Cursor_Left.f bt140.2.1 bt140.2.2.1 bt140.2.2.2).bind fun bt145 => (if bt145.1 = 1 then ((octets_Cursor_At.f bt145.2.1 bt145.2.2.1 bt145.2.2.2).bind fun bt149 => (if bt149.1 = 2 then ((octets_Cursor_End.f bt149.2.1 bt149.2.2.1 bt149.2.2.2).bind fun bt153 => (some (bt153.1 == 3))) else (some false))) else (some false))) else (some false)) else (some false))) else (some false)) else (some false)) else (some false)) else (some false)) else (some false)))) = some r := H
  have A3 := Aside0.mk A30
  clear A30
  replace H := Option.bind_eq_some_iff.mp H
  obtain ⟨⟨t136, t137, t138⟩, A40, H⟩ := H
  replace H : ((octets_Cursor_Int.f t136 t137 t138 2).bind fun bt140 => (if t130.toList = ([1, 2] : List UInt8) then (if t131 = 0 then (if t132.toList = ([2, 1] : List UInt8) then (if t133 = 0 then (if t135 = 1 then ((octets_Signed.f k (-1)).bind fun t144 => (if t144.toList = ([255, 255, 255, 255] : List UInt8) then (if bt140.1 = 258 then ((octets_Cursor_Left.f bt140.2.1 bt140.2.2.1 bt140.2.2.2).bind fun bt145 => (if bt145.1 = 1 then ((octets_Cursor_At.f bt145.2.1 bt145.2.2.1 bt145.2.2.2).bind fun bt149 => (if bt149.1 = 2 then ((octets_Cursor_End.f bt149.2.1 bt149.2.2.1 bt149.2.2.2).bind fun bt153 => (some (bt153.1 == 3))) else (some false))) else (some false))) else (some false)) else (some false))) else (some false)) else (some false)) else (some false)) else (some false)) else (some false))) = some r := H
  have A4 := Aside0.mk A40
  clear A40
  replace H := Option.bind_eq_some_iff.mp H
  obtain ⟨⟨t140, t141, t142, t143⟩, A50, H⟩ := H
  replace H : (if t130.toList = ([1, 2] : List UInt8) then (if t131 = 0 then (if t132.toList = ([2, 1] : List UInt8) then (if t133 = 0 then (if t135 = 1 then ((octets_Signed.f k (-1)).bind fun t144 => (if t144.toList = ([255, 255, 255, 255] : List UInt8) then (if t140 = 258 then ((octets_Cursor_Left.f t141 t142 t143).bind fun bt145 => (if bt145.1 = 1 then ((octets_Cursor_At.f bt145.2.1 bt145.2.2.1 bt145.2.2.2).bind fun bt149 => (if bt149.1 = 2 then ((octets_Cursor_End.f bt149.2.1 bt149.2.2.1 bt149.2.2.2).bind fun bt153 => (some (bt153.1 == 3))) else (some false))) else (some false))) else (some false)) else (some false))) else (some false)) else (some false)) else (some false)) else (some false)) else (some false)) = some r := H
  have A5 := Aside0.mk A50
  clear A50
  by_cases c6 : t130.toList = ([1, 2] : List UInt8)
  · rw [if_pos c6] at H
    have c6b0 : (t130.toList == ([1, 2] : List UInt8)) = true := beq_iff_eq.mpr c6
    have c6b1 : (t130.toList != ([1, 2] : List UInt8)) = false := bne_eq_false_iff_eq.mpr c6
    clear c6
    by_cases c7 : t131 = 0
    · rw [if_pos c7] at H
      have c7b0 : (t131 == 0) = true := beq_iff_eq.mpr c7
      have c7b1 : (t131 != 0) = false := bne_eq_false_iff_eq.mpr c7
      clear c7
      by_cases c8 : t132.toList = ([2, 1] : List UInt8)
      · rw [if_pos c8] at H
        have c8b0 : (t132.toList == ([2, 1] : List UInt8)) = true := beq_iff_eq.mpr c8
        have c8b1 : (t132.toList != ([2, 1] : List UInt8)) = false := bne_eq_false_iff_eq.mpr c8
        clear c8
        by_cases c9 : t133 = 0
        · rw [if_pos c9] at H
          have c9b0 : (t133 == 0) = true := beq_iff_eq.mpr c9
          have c9b1 : (t133 != 0) = false := bne_eq_false_iff_eq.mpr c9
          clear c9
          by_cases c10 : t135 = 1
          · rw [if_pos c10] at H
            have c10b0 : (t135 == 1) = true := beq_iff_eq.mpr c10
            have c10b1 : (t135 != 1) = false := bne_eq_false_iff_eq.mpr c10
            clear c10
            replace H := Option.bind_eq_some_iff.mp H
            obtain ⟨t144, A110, H⟩ := H
            replace H : (if t144.toList = ([255, 255, 255, 255] : List UInt8) then (if t140 = 258 then ((octets_Cursor_Left.f t141 t142 t143).bind fun bt145 => (if bt145.1 = 1 then ((octets_Cursor_At.f bt145.2.1 bt145.2.2.1 bt145.2.2.2).bind fun bt149 => (if bt149.1 = 2 then ((octets_Cursor_End.f bt149.2.1 bt149.2.2.1 bt149.2.2.2).bind fun bt153 => (some (bt153.1 == 3))) else (some false))) else (some false))) else (some false)) else (some false)) = some r := H
            have A11 := Aside0.mk A110
            clear A110
            by_cases c12 : t144.toList = ([255, 255, 255, 255] : List UInt8)
            · rw [if_pos c12] at H
              have c12b0 : (t144.toList == ([255, 255, 255, 255] : List UInt8)) = true := beq_iff_eq.mpr c12
              have c12b1 : (t144.toList != ([255, 255, 255, 255] : List UInt8)) = false := bne_eq_false_iff_eq.mpr c12
              clear c12
              by_cases c13 : t140 = 258
              · rw [if_pos c13] at H
                have c13b0 : (t140 == 258) = true := beq_iff_eq.mpr c13
                have c13b1 : (t140 != 258) = false := bne_eq_false_iff_eq.mpr c13
                clear c13
                replace H := Option.bind_eq_some_iff.mp H
                obtain ⟨⟨t145, t146, t147, t148⟩, A140, H⟩ := H
                replace H : (if t145 = 1 then ((octets_Cursor_At.f t146 t147 t148).bind fun bt149 => (if bt149.1 = 2 then ((octets_Cursor_End.f bt149.2.1 bt149.2.2.1 bt149.2.2.2).bind fun bt153 => (some (bt153.1 == 3))) else (some false))) else (some false)) = some r := H
                have A14 := Aside0.mk A140
                clear A140
                by_cases c15 : t145 = 1
                · rw [if_pos c15] at H
                  have c15b0 : (t145 == 1) = true := beq_iff_eq.mpr c15
                  have c15b1 : (t145 != 1) = false := bne_eq_false_iff_eq.mpr c15
                  clear c15
                  replace H := Option.bind_eq_some_iff.mp H
                  obtain ⟨⟨t149, t150, t151, t152⟩, A160, H⟩ := H
                  replace H : (if t149 = 2 then ((octets_Cursor_End.f t150 t151 t152).bind fun bt153 => (some (bt153.1 == 3))) else (some false)) = some r := H
                  have A16 := Aside0.mk A160
                  clear A160
                  by_cases c17 : t149 = 2
                  · rw [if_pos c17] at H
                    have c17b0 : (t149 == 2) = true := beq_iff_eq.mpr c17
                    have c17b1 : (t149 != 2) = false := bne_eq_false_iff_eq.mpr c17
                    clear c17
                    replace H := Option.bind_eq_some_iff.mp H
                    obtain ⟨⟨t153, t154, t155, t156⟩, A180, H⟩ := H
                    replace H : (some (t153 == 3)) = some r := H
                    have A18 := Aside0.mk A180
                    clear A180
                    obtain rfl := Option.some.inj H
                    go_enter Try.func8, Try.ntmps8
                    go_wp2_with (first | ((with_reducible refine gate_callee (f := 9) rfl ?_); refine goesL_ (some 10) rfl rfl Try.func9 (by kernel_rfl) rfl #[.int .i64 2, .int .i64 258] rfl (by (try simp only [List.map_toArray, List.map_cons, List.map_nil]); first | done | rfl | (simp only [List.length_drop, List.length_take]; rfl)) ?_; (with_reducible refine (octets_Put.calls k 2 258 t130 t131 _ A1.out).mono ?_); rintro e w19 ⟨rfl, hb⟩; refine ⟨_, rfl, ?_⟩; have n0_ := Aside0.mk (below_step (by repeat (first | (with_reducible first | exact HB.out | apply below_alloc | apply pw_below_drewN | apply below_drew1) | exact HB.out)) hb); clear HB; have HB := n0_; clear n0_; (try clear hb); (try clear hb2); (try clear hk); (try clear hi)) | ((with_reducible refine gate_callee (f := 11) rfl ?_); refine goesL_ (some 14) rfl rfl Try.func11 (by kernel_rfl) rfl #[.int .i64 2, .int .i64 258] rfl (by (try simp only [List.map_toArray, List.map_cons, List.map_nil]); first | done | rfl | (simp only [List.length_drop, List.length_take]; rfl)) ?_; (with_reducible refine (octets_Little.calls k 2 258 t132 t133 _ A2.out).mono ?_); rintro e w20 ⟨rfl, hb⟩; refine ⟨_, rfl, ?_⟩; have n0_ := Aside0.mk (below_step (by repeat (first | (with_reducible first | exact HB.out | apply below_alloc | apply pw_below_drewN | apply below_drew1) | exact HB.out)) hb); clear HB; have HB := n0_; clear n0_; (try clear hb); (try clear hb2); (try clear hk); (try clear hi)) | ((with_reducible refine gate_callee (f := 9) rfl ?_); refine goesL_ (some 18) rfl rfl Try.func9 (by kernel_rfl) rfl #[.int .i64 3, .int .i64 1] rfl (by (try simp only [List.map_toArray, List.map_cons, List.map_nil]); first | done | rfl | (simp only [List.length_drop, List.length_take]; rfl)) ?_; (with_reducible refine (octets_Put.calls k 3 1 t134 t135 _ A3.out).mono ?_); rintro e w21 ⟨rfl, hb⟩; refine ⟨_, rfl, ?_⟩; have n0_ := Aside0.mk (below_step (by repeat (first | (with_reducible first | exact HB.out | apply below_alloc | apply pw_below_drewN | apply below_drew1) | exact HB.out)) hb); clear HB; have HB := n0_; clear n0_; (try clear hb); (try clear hb2); (try clear hk); (try clear hi)) | ((with_reducible refine gate_callee (f := 15) rfl ?_); refine goesL_ (some 21) rfl rfl Try.func15 (by kernel_rfl) rfl #[.string (⟨#[1, 2, 3]⟩ : ByteArray)] rfl (by (try simp only [List.map_toArray, List.map_cons, List.map_nil]); first | done | rfl | (simp only [List.length_drop, List.length_take]; rfl)) ?_; (with_reducible refine (octets_New.calls (⟨#[1, 2, 3]⟩ : ByteArray) t136 t137 t138 w _ ?side1 A4.out).mono ?_); (case side1 => repeat (first | (with_reducible first | exact HB.out | apply below_alloc | apply pw_below_drewN | apply below_drew1) | exact HB.out)); rintro e w22 ⟨g139, rfl, hi, hb, hb2⟩; refine ⟨_, rfl, ?_⟩; have n0_ := Aside0.mk (hb); have n1_ := Aside0.mk (hi); clear HB; have HB := n0_; have HI139 := n1_; clear n0_ n1_; (try clear hb); (try clear hb2); (try clear hk); (try clear hi)) | ((with_reducible refine gate_callee (f := 20) rfl ?_); refine goesL_ (some 25) rfl rfl Try.func20 (by kernel_rfl) rfl #[.pointer (some ⟨g139, 0, none⟩), .int .i64 2] rfl (by (try simp only [List.map_toArray, List.map_cons, List.map_nil]); first | done | rfl | (simp only [List.length_drop, List.length_take]; rfl)) ?_; (with_reducible refine (octets_Cursor_Int.calls g139 t136 t137 t138 2 t140 t141 t142 t143 w _ ?side1 ?side2 A5.out).mono ?_); (case side1 => repeat (first | (with_reducible first | exact HI139.out | apply IsS46.alloc | apply IsS46.drewN | apply IsS46.drew | apply IsS46.set_0 | apply IsS46.set_1 | apply IsS46.set_2) | exact HI139.out)); (case side2 => repeat (first | (with_reducible first | exact HB.out | apply below_alloc | apply pw_below_drewN | apply below_drew1 | refine below_set ?_ (IsS46.ge HI139.out)) | exact HB.out)); rintro e w23 ⟨rfl, hi, hb, hk⟩; refine ⟨_, rfl, ?_⟩; have n0_ := Aside0.mk (hb); have n1_ := Aside0.mk (hi); clear HB; clear HI139; have HB := n0_; have HI139 := n1_; clear n0_ n1_; (try clear hb); (try clear hb2); (try clear hk); (try clear hi)) | (go_at_call 13; (with_reducible refine (octets_Signed.calls k (-1) t144 _ A11.out).mono ?_); rintro e w24 ⟨rfl, hb⟩; have n0_ := Aside0.mk (IsS46.below (by repeat (first | (with_reducible first | exact HI139.out | apply IsS46.alloc | apply IsS46.drewN | apply IsS46.drew | apply IsS46.set_0 | apply IsS46.set_1 | apply IsS46.set_2) | exact HI139.out)) hb); have n1_ := Aside0.mk (below_step (by repeat (first | (with_reducible first | exact HB.out | apply below_alloc | apply pw_below_drewN | apply below_drew1 | refine below_set ?_ (IsS46.ge HI139.out)) | exact HB.out)) hb); clear HI139; clear HB; have HI139 := n0_; have HB := n1_; clear n0_ n1_; (try clear hb); (try clear hb2); (try clear hk); (try clear hi)) | (go_at_call 27; (with_reducible refine (octets_Cursor_Left.calls g139 t141 t142 t143 t145 t146 t147 t148 w _ ?side1 ?side2 A14.out).mono ?_); (case side1 => repeat (first | (with_reducible first | exact HI139.out | apply IsS46.alloc | apply IsS46.drewN | apply IsS46.drew | apply IsS46.set_0 | apply IsS46.set_1 | apply IsS46.set_2) | exact HI139.out)); (case side2 => repeat (first | (with_reducible first | exact HB.out | apply below_alloc | apply pw_below_drewN | apply below_drew1 | refine below_set ?_ (IsS46.ge HI139.out)) | exact HB.out)); rintro e w25 ⟨rfl, hi, hb, hk⟩; have n0_ := Aside0.mk (hb); have n1_ := Aside0.mk (hi); clear HB; clear HI139; have HB := n0_; have HI139 := n1_; clear n0_ n1_; (try clear hb); (try clear hb2); (try clear hk); (try clear hi)) | (go_at_call 17; (with_reducible refine (octets_Cursor_At.calls g139 t146 t147 t148 t149 t150 t151 t152 w _ ?side1 ?side2 A16.out).mono ?_); (case side1 => repeat (first | (with_reducible first | exact HI139.out | apply IsS46.alloc | apply IsS46.drewN | apply IsS46.drew | apply IsS46.set_0 | apply IsS46.set_1 | apply IsS46.set_2) | exact HI139.out)); (case side2 => repeat (first | (with_reducible first | exact HB.out | apply below_alloc | apply pw_below_drewN | apply below_drew1 | refine below_set ?_ (IsS46.ge HI139.out)) | exact HB.out)); rintro e w26 ⟨rfl, hi, hb, hk⟩; have n0_ := Aside0.mk (hb); have n1_ := Aside0.mk (hi); clear HB; clear HI139; have HB := n0_; have HI139 := n1_; clear n0_ n1_; (try clear hb); (try clear hb2); (try clear hk); (try clear hi)) | (go_at_call 18; (with_reducible refine (octets_Cursor_End.calls g139 t150 t151 t152 t153 t154 t155 t156 w _ ?side1 ?side2 A18.out).mono ?_); (case side1 => repeat (first | (with_reducible first | exact HI139.out | apply IsS46.alloc | apply IsS46.drewN | apply IsS46.drew | apply IsS46.set_0 | apply IsS46.set_1 | apply IsS46.set_2) | exact HI139.out)); (case side2 => repeat (first | (with_reducible first | exact HB.out | apply below_alloc | apply pw_below_drewN | apply below_drew1 | refine below_set ?_ (IsS46.ge HI139.out)) | exact HB.out)); rintro e w27 ⟨rfl, hi, hb, hk⟩; have n0_ := Aside0.mk (hb); have n1_ := Aside0.mk (hi); clear HB; clear HI139; have HB := n0_; have HI139 := n1_; clear n0_ n1_; (try clear hb); (try clear hb2); (try clear hk); (try clear hi)))
                    go_ret
                    exact ⟨by first | rfl | (simp [errW_none, errW_some] <;> rfl) | (simp [*, errW_none, errW_some] <;> rfl), by repeat (first | (with_reducible first | exact HB.out | apply below_alloc | apply pw_below_drewN | apply below_drew1 | refine below_set ?_ (IsS46.ge HI139.out)) | exact HB.out)⟩
                  · rw [if_neg c17] at H
                    have c17b0 : (t149 == 2) = false := beq_eq_false_iff_ne.mpr c17
                    have c17b1 : (t149 != 2) = true := bne_iff_ne.mpr c17
                    obtain rfl := Option.some.inj H
                    go_enter Try.func8, Try.ntmps8
                    go_wp2_with (first | ((with_reducible refine gate_callee (f := 9) rfl ?_); refine goesL_ (some 10) rfl rfl Try.func9 (by kernel_rfl) rfl #[.int .i64 2, .int .i64 258] rfl (by (try simp only [List.map_toArray, List.map_cons, List.map_nil]); first | done | rfl | (simp only [List.length_drop, List.length_take]; rfl)) ?_; (with_reducible refine (octets_Put.calls k 2 258 t130 t131 _ A1.out).mono ?_); rintro e w28 ⟨rfl, hb⟩; refine ⟨_, rfl, ?_⟩; have n0_ := Aside0.mk (below_step (by repeat (first | (with_reducible first | exact HB.out | apply below_alloc | apply pw_below_drewN | apply below_drew1) | exact HB.out)) hb); clear HB; have HB := n0_; clear n0_; (try clear hb); (try clear hb2); (try clear hk); (try clear hi)) | ((with_reducible refine gate_callee (f := 11) rfl ?_); refine goesL_ (some 14) rfl rfl Try.func11 (by kernel_rfl) rfl #[.int .i64 2, .int .i64 258] rfl (by (try simp only [List.map_toArray, List.map_cons, List.map_nil]); first | done | rfl | (simp only [List.length_drop, List.length_take]; rfl)) ?_; (with_reducible refine (octets_Little.calls k 2 258 t132 t133 _ A2.out).mono ?_); rintro e w29 ⟨rfl, hb⟩; refine ⟨_, rfl, ?_⟩; have n0_ := Aside0.mk (below_step (by repeat (first | (with_reducible first | exact HB.out | apply below_alloc | apply pw_below_drewN | apply below_drew1) | exact HB.out)) hb); clear HB; have HB := n0_; clear n0_; (try clear hb); (try clear hb2); (try clear hk); (try clear hi)) | ((with_reducible refine gate_callee (f := 9) rfl ?_); refine goesL_ (some 18) rfl rfl Try.func9 (by kernel_rfl) rfl #[.int .i64 3, .int .i64 1] rfl (by (try simp only [List.map_toArray, List.map_cons, List.map_nil]); first | done | rfl | (simp only [List.length_drop, List.length_take]; rfl)) ?_; (with_reducible refine (octets_Put.calls k 3 1 t134 t135 _ A3.out).mono ?_); rintro e w30 ⟨rfl, hb⟩; refine ⟨_, rfl, ?_⟩; have n0_ := Aside0.mk (below_step (by repeat (first | (with_reducible first | exact HB.out | apply below_alloc | apply pw_below_drewN | apply below_drew1) | exact HB.out)) hb); clear HB; have HB := n0_; clear n0_; (try clear hb); (try clear hb2); (try clear hk); (try clear hi)) | ((with_reducible refine gate_callee (f := 15) rfl ?_); refine goesL_ (some 21) rfl rfl Try.func15 (by kernel_rfl) rfl #[.string (⟨#[1, 2, 3]⟩ : ByteArray)] rfl (by (try simp only [List.map_toArray, List.map_cons, List.map_nil]); first | done | rfl | (simp only [List.length_drop, List.length_take]; rfl)) ?_; (with_reducible refine (octets_New.calls (⟨#[1, 2, 3]⟩ : ByteArray) t136 t137 t138 w _ ?side1 A4.out).mono ?_); (case side1 => repeat (first | (with_reducible first | exact HB.out | apply below_alloc | apply pw_below_drewN | apply below_drew1) | exact HB.out)); rintro e w31 ⟨g139, rfl, hi, hb, hb2⟩; refine ⟨_, rfl, ?_⟩; have n0_ := Aside0.mk (hb); have n1_ := Aside0.mk (hi); clear HB; have HB := n0_; have HI139 := n1_; clear n0_ n1_; (try clear hb); (try clear hb2); (try clear hk); (try clear hi)) | ((with_reducible refine gate_callee (f := 20) rfl ?_); refine goesL_ (some 25) rfl rfl Try.func20 (by kernel_rfl) rfl #[.pointer (some ⟨g139, 0, none⟩), .int .i64 2] rfl (by (try simp only [List.map_toArray, List.map_cons, List.map_nil]); first | done | rfl | (simp only [List.length_drop, List.length_take]; rfl)) ?_; (with_reducible refine (octets_Cursor_Int.calls g139 t136 t137 t138 2 t140 t141 t142 t143 w _ ?side1 ?side2 A5.out).mono ?_); (case side1 => repeat (first | (with_reducible first | exact HI139.out | apply IsS46.alloc | apply IsS46.drewN | apply IsS46.drew | apply IsS46.set_0 | apply IsS46.set_1 | apply IsS46.set_2) | exact HI139.out)); (case side2 => repeat (first | (with_reducible first | exact HB.out | apply below_alloc | apply pw_below_drewN | apply below_drew1 | refine below_set ?_ (IsS46.ge HI139.out)) | exact HB.out)); rintro e w32 ⟨rfl, hi, hb, hk⟩; refine ⟨_, rfl, ?_⟩; have n0_ := Aside0.mk (hb); have n1_ := Aside0.mk (hi); clear HB; clear HI139; have HB := n0_; have HI139 := n1_; clear n0_ n1_; (try clear hb); (try clear hb2); (try clear hk); (try clear hi)) | (go_at_call 13; (with_reducible refine (octets_Signed.calls k (-1) t144 _ A11.out).mono ?_); rintro e w33 ⟨rfl, hb⟩; have n0_ := Aside0.mk (IsS46.below (by repeat (first | (with_reducible first | exact HI139.out | apply IsS46.alloc | apply IsS46.drewN | apply IsS46.drew | apply IsS46.set_0 | apply IsS46.set_1 | apply IsS46.set_2) | exact HI139.out)) hb); have n1_ := Aside0.mk (below_step (by repeat (first | (with_reducible first | exact HB.out | apply below_alloc | apply pw_below_drewN | apply below_drew1 | refine below_set ?_ (IsS46.ge HI139.out)) | exact HB.out)) hb); clear HI139; clear HB; have HI139 := n0_; have HB := n1_; clear n0_ n1_; (try clear hb); (try clear hb2); (try clear hk); (try clear hi)) | (go_at_call 27; (with_reducible refine (octets_Cursor_Left.calls g139 t141 t142 t143 t145 t146 t147 t148 w _ ?side1 ?side2 A14.out).mono ?_); (case side1 => repeat (first | (with_reducible first | exact HI139.out | apply IsS46.alloc | apply IsS46.drewN | apply IsS46.drew | apply IsS46.set_0 | apply IsS46.set_1 | apply IsS46.set_2) | exact HI139.out)); (case side2 => repeat (first | (with_reducible first | exact HB.out | apply below_alloc | apply pw_below_drewN | apply below_drew1 | refine below_set ?_ (IsS46.ge HI139.out)) | exact HB.out)); rintro e w34 ⟨rfl, hi, hb, hk⟩; have n0_ := Aside0.mk (hb); have n1_ := Aside0.mk (hi); clear HB; clear HI139; have HB := n0_; have HI139 := n1_; clear n0_ n1_; (try clear hb); (try clear hb2); (try clear hk); (try clear hi)) | (go_at_call 17; (with_reducible refine (octets_Cursor_At.calls g139 t146 t147 t148 t149 t150 t151 t152 w _ ?side1 ?side2 A16.out).mono ?_); (case side1 => repeat (first | (with_reducible first | exact HI139.out | apply IsS46.alloc | apply IsS46.drewN | apply IsS46.drew | apply IsS46.set_0 | apply IsS46.set_1 | apply IsS46.set_2) | exact HI139.out)); (case side2 => repeat (first | (with_reducible first | exact HB.out | apply below_alloc | apply pw_below_drewN | apply below_drew1 | refine below_set ?_ (IsS46.ge HI139.out)) | exact HB.out)); rintro e w35 ⟨rfl, hi, hb, hk⟩; have n0_ := Aside0.mk (hb); have n1_ := Aside0.mk (hi); clear HB; clear HI139; have HB := n0_; have HI139 := n1_; clear n0_ n1_; (try clear hb); (try clear hb2); (try clear hk); (try clear hi)))
                    go_ret
                    exact ⟨by first | rfl | (simp [errW_none, errW_some] <;> rfl) | (simp [*, errW_none, errW_some] <;> rfl), by repeat (first | (with_reducible first | exact HB.out | apply below_alloc | apply pw_below_drewN | apply below_drew1 | refine below_set ?_ (IsS46.ge HI139.out)) | exact HB.out)⟩
                · rw [if_neg c15] at H
                  have c15b0 : (t145 == 1) = false := beq_eq_false_iff_ne.mpr c15
                  have c15b1 : (t145 != 1) = true := bne_iff_ne.mpr c15
                  obtain rfl := Option.some.inj H
                  go_enter Try.func8, Try.ntmps8
                  go_wp2_with (first | ((with_reducible refine gate_callee (f := 9) rfl ?_); refine goesL_ (some 10) rfl rfl Try.func9 (by kernel_rfl) rfl #[.int .i64 2, .int .i64 258] rfl (by (try simp only [List.map_toArray, List.map_cons, List.map_nil]); first | done | rfl | (simp only [List.length_drop, List.length_take]; rfl)) ?_; (with_reducible refine (octets_Put.calls k 2 258 t130 t131 _ A1.out).mono ?_); rintro e w36 ⟨rfl, hb⟩; refine ⟨_, rfl, ?_⟩; have n0_ := Aside0.mk (below_step (by repeat (first | (with_reducible first | exact HB.out | apply below_alloc | apply pw_below_drewN | apply below_drew1) | exact HB.out)) hb); clear HB; have HB := n0_; clear n0_; (try clear hb); (try clear hb2); (try clear hk); (try clear hi)) | ((with_reducible refine gate_callee (f := 11) rfl ?_); refine goesL_ (some 14) rfl rfl Try.func11 (by kernel_rfl) rfl #[.int .i64 2, .int .i64 258] rfl (by (try simp only [List.map_toArray, List.map_cons, List.map_nil]); first | done | rfl | (simp only [List.length_drop, List.length_take]; rfl)) ?_; (with_reducible refine (octets_Little.calls k 2 258 t132 t133 _ A2.out).mono ?_); rintro e w37 ⟨rfl, hb⟩; refine ⟨_, rfl, ?_⟩; have n0_ := Aside0.mk (below_step (by repeat (first | (with_reducible first | exact HB.out | apply below_alloc | apply pw_below_drewN | apply below_drew1) | exact HB.out)) hb); clear HB; have HB := n0_; clear n0_; (try clear hb); (try clear hb2); (try clear hk); (try clear hi)) | ((with_reducible refine gate_callee (f := 9) rfl ?_); refine goesL_ (some 18) rfl rfl Try.func9 (by kernel_rfl) rfl #[.int .i64 3, .int .i64 1] rfl (by (try simp only [List.map_toArray, List.map_cons, List.map_nil]); first | done | rfl | (simp only [List.length_drop, List.length_take]; rfl)) ?_; (with_reducible refine (octets_Put.calls k 3 1 t134 t135 _ A3.out).mono ?_); rintro e w38 ⟨rfl, hb⟩; refine ⟨_, rfl, ?_⟩; have n0_ := Aside0.mk (below_step (by repeat (first | (with_reducible first | exact HB.out | apply below_alloc | apply pw_below_drewN | apply below_drew1) | exact HB.out)) hb); clear HB; have HB := n0_; clear n0_; (try clear hb); (try clear hb2); (try clear hk); (try clear hi)) | ((with_reducible refine gate_callee (f := 15) rfl ?_); refine goesL_ (some 21) rfl rfl Try.func15 (by kernel_rfl) rfl #[.string (⟨#[1, 2, 3]⟩ : ByteArray)] rfl (by (try simp only [List.map_toArray, List.map_cons, List.map_nil]); first | done | rfl | (simp only [List.length_drop, List.length_take]; rfl)) ?_; (with_reducible refine (octets_New.calls (⟨#[1, 2, 3]⟩ : ByteArray) t136 t137 t138 w _ ?side1 A4.out).mono ?_); (case side1 => repeat (first | (with_reducible first | exact HB.out | apply below_alloc | apply pw_below_drewN | apply below_drew1) | exact HB.out)); rintro e w39 ⟨g139, rfl, hi, hb, hb2⟩; refine ⟨_, rfl, ?_⟩; have n0_ := Aside0.mk (hb); have n1_ := Aside0.mk (hi); clear HB; have HB := n0_; have HI139 := n1_; clear n0_ n1_; (try clear hb); (try clear hb2); (try clear hk); (try clear hi)) | ((with_reducible refine gate_callee (f := 20) rfl ?_); refine goesL_ (some 25) rfl rfl Try.func20 (by kernel_rfl) rfl #[.pointer (some ⟨g139, 0, none⟩), .int .i64 2] rfl (by (try simp only [List.map_toArray, List.map_cons, List.map_nil]); first | done | rfl | (simp only [List.length_drop, List.length_take]; rfl)) ?_; (with_reducible refine (octets_Cursor_Int.calls g139 t136 t137 t138 2 t140 t141 t142 t143 w _ ?side1 ?side2 A5.out).mono ?_); (case side1 => repeat (first | (with_reducible first | exact HI139.out | apply IsS46.alloc | apply IsS46.drewN | apply IsS46.drew | apply IsS46.set_0 | apply IsS46.set_1 | apply IsS46.set_2) | exact HI139.out)); (case side2 => repeat (first | (with_reducible first | exact HB.out | apply below_alloc | apply pw_below_drewN | apply below_drew1 | refine below_set ?_ (IsS46.ge HI139.out)) | exact HB.out)); rintro e w40 ⟨rfl, hi, hb, hk⟩; refine ⟨_, rfl, ?_⟩; have n0_ := Aside0.mk (hb); have n1_ := Aside0.mk (hi); clear HB; clear HI139; have HB := n0_; have HI139 := n1_; clear n0_ n1_; (try clear hb); (try clear hb2); (try clear hk); (try clear hi)) | (go_at_call 13; (with_reducible refine (octets_Signed.calls k (-1) t144 _ A11.out).mono ?_); rintro e w41 ⟨rfl, hb⟩; have n0_ := Aside0.mk (IsS46.below (by repeat (first | (with_reducible first | exact HI139.out | apply IsS46.alloc | apply IsS46.drewN | apply IsS46.drew | apply IsS46.set_0 | apply IsS46.set_1 | apply IsS46.set_2) | exact HI139.out)) hb); have n1_ := Aside0.mk (below_step (by repeat (first | (with_reducible first | exact HB.out | apply below_alloc | apply pw_below_drewN | apply below_drew1 | refine below_set ?_ (IsS46.ge HI139.out)) | exact HB.out)) hb); clear HI139; clear HB; have HI139 := n0_; have HB := n1_; clear n0_ n1_; (try clear hb); (try clear hb2); (try clear hk); (try clear hi)) | (go_at_call 27; (with_reducible refine (octets_Cursor_Left.calls g139 t141 t142 t143 t145 t146 t147 t148 w _ ?side1 ?side2 A14.out).mono ?_); (case side1 => repeat (first | (with_reducible first | exact HI139.out | apply IsS46.alloc | apply IsS46.drewN | apply IsS46.drew | apply IsS46.set_0 | apply IsS46.set_1 | apply IsS46.set_2) | exact HI139.out)); (case side2 => repeat (first | (with_reducible first | exact HB.out | apply below_alloc | apply pw_below_drewN | apply below_drew1 | refine below_set ?_ (IsS46.ge HI139.out)) | exact HB.out)); rintro e w42 ⟨rfl, hi, hb, hk⟩; have n0_ := Aside0.mk (hb); have n1_ := Aside0.mk (hi); clear HB; clear HI139; have HB := n0_; have HI139 := n1_; clear n0_ n1_; (try clear hb); (try clear hb2); (try clear hk); (try clear hi)))
                  go_ret
                  exact ⟨by first | rfl | (simp [errW_none, errW_some] <;> rfl) | (simp [*, errW_none, errW_some] <;> rfl), by repeat (first | (with_reducible first | exact HB.out | apply below_alloc | apply pw_below_drewN | apply below_drew1 | refine below_set ?_ (IsS46.ge HI139.out)) | exact HB.out)⟩
              · rw [if_neg c13] at H
                have c13b0 : (t140 == 258) = false := beq_eq_false_iff_ne.mpr c13
                have c13b1 : (t140 != 258) = true := bne_iff_ne.mpr c13
                obtain rfl := Option.some.inj H
                go_enter Try.func8, Try.ntmps8
                go_wp2_with (first | ((with_reducible refine gate_callee (f := 9) rfl ?_); refine goesL_ (some 10) rfl rfl Try.func9 (by kernel_rfl) rfl #[.int .i64 2, .int .i64 258] rfl (by (try simp only [List.map_toArray, List.map_cons, List.map_nil]); first | done | rfl | (simp only [List.length_drop, List.length_take]; rfl)) ?_; (with_reducible refine (octets_Put.calls k 2 258 t130 t131 _ A1.out).mono ?_); rintro e w43 ⟨rfl, hb⟩; refine ⟨_, rfl, ?_⟩; have n0_ := Aside0.mk (below_step (by repeat (first | (with_reducible first | exact HB.out | apply below_alloc | apply pw_below_drewN | apply below_drew1) | exact HB.out)) hb); clear HB; have HB := n0_; clear n0_; (try clear hb); (try clear hb2); (try clear hk); (try clear hi)) | ((with_reducible refine gate_callee (f := 11) rfl ?_); refine goesL_ (some 14) rfl rfl Try.func11 (by kernel_rfl) rfl #[.int .i64 2, .int .i64 258] rfl (by (try simp only [List.map_toArray, List.map_cons, List.map_nil]); first | done | rfl | (simp only [List.length_drop, List.length_take]; rfl)) ?_; (with_reducible refine (octets_Little.calls k 2 258 t132 t133 _ A2.out).mono ?_); rintro e w44 ⟨rfl, hb⟩; refine ⟨_, rfl, ?_⟩; have n0_ := Aside0.mk (below_step (by repeat (first | (with_reducible first | exact HB.out | apply below_alloc | apply pw_below_drewN | apply below_drew1) | exact HB.out)) hb); clear HB; have HB := n0_; clear n0_; (try clear hb); (try clear hb2); (try clear hk); (try clear hi)) | ((with_reducible refine gate_callee (f := 9) rfl ?_); refine goesL_ (some 18) rfl rfl Try.func9 (by kernel_rfl) rfl #[.int .i64 3, .int .i64 1] rfl (by (try simp only [List.map_toArray, List.map_cons, List.map_nil]); first | done | rfl | (simp only [List.length_drop, List.length_take]; rfl)) ?_; (with_reducible refine (octets_Put.calls k 3 1 t134 t135 _ A3.out).mono ?_); rintro e w45 ⟨rfl, hb⟩; refine ⟨_, rfl, ?_⟩; have n0_ := Aside0.mk (below_step (by repeat (first | (with_reducible first | exact HB.out | apply below_alloc | apply pw_below_drewN | apply below_drew1) | exact HB.out)) hb); clear HB; have HB := n0_; clear n0_; (try clear hb); (try clear hb2); (try clear hk); (try clear hi)) | ((with_reducible refine gate_callee (f := 15) rfl ?_); refine goesL_ (some 21) rfl rfl Try.func15 (by kernel_rfl) rfl #[.string (⟨#[1, 2, 3]⟩ : ByteArray)] rfl (by (try simp only [List.map_toArray, List.map_cons, List.map_nil]); first | done | rfl | (simp only [List.length_drop, List.length_take]; rfl)) ?_; (with_reducible refine (octets_New.calls (⟨#[1, 2, 3]⟩ : ByteArray) t136 t137 t138 w _ ?side1 A4.out).mono ?_); (case side1 => repeat (first | (with_reducible first | exact HB.out | apply below_alloc | apply pw_below_drewN | apply below_drew1) | exact HB.out)); rintro e w46 ⟨g139, rfl, hi, hb, hb2⟩; refine ⟨_, rfl, ?_⟩; have n0_ := Aside0.mk (hb); have n1_ := Aside0.mk (hi); clear HB; have HB := n0_; have HI139 := n1_; clear n0_ n1_; (try clear hb); (try clear hb2); (try clear hk); (try clear hi)) | ((with_reducible refine gate_callee (f := 20) rfl ?_); refine goesL_ (some 25) rfl rfl Try.func20 (by kernel_rfl) rfl #[.pointer (some ⟨g139, 0, none⟩), .int .i64 2] rfl (by (try simp only [List.map_toArray, List.map_cons, List.map_nil]); first | done | rfl | (simp only [List.length_drop, List.length_take]; rfl)) ?_; (with_reducible refine (octets_Cursor_Int.calls g139 t136 t137 t138 2 t140 t141 t142 t143 w _ ?side1 ?side2 A5.out).mono ?_); (case side1 => repeat (first | (with_reducible first | exact HI139.out | apply IsS46.alloc | apply IsS46.drewN | apply IsS46.drew | apply IsS46.set_0 | apply IsS46.set_1 | apply IsS46.set_2) | exact HI139.out)); (case side2 => repeat (first | (with_reducible first | exact HB.out | apply below_alloc | apply pw_below_drewN | apply below_drew1 | refine below_set ?_ (IsS46.ge HI139.out)) | exact HB.out)); rintro e w47 ⟨rfl, hi, hb, hk⟩; refine ⟨_, rfl, ?_⟩; have n0_ := Aside0.mk (hb); have n1_ := Aside0.mk (hi); clear HB; clear HI139; have HB := n0_; have HI139 := n1_; clear n0_ n1_; (try clear hb); (try clear hb2); (try clear hk); (try clear hi)) | (go_at_call 13; (with_reducible refine (octets_Signed.calls k (-1) t144 _ A11.out).mono ?_); rintro e w48 ⟨rfl, hb⟩; have n0_ := Aside0.mk (IsS46.below (by repeat (first | (with_reducible first | exact HI139.out | apply IsS46.alloc | apply IsS46.drewN | apply IsS46.drew | apply IsS46.set_0 | apply IsS46.set_1 | apply IsS46.set_2) | exact HI139.out)) hb); have n1_ := Aside0.mk (below_step (by repeat (first | (with_reducible first | exact HB.out | apply below_alloc | apply pw_below_drewN | apply below_drew1 | refine below_set ?_ (IsS46.ge HI139.out)) | exact HB.out)) hb); clear HI139; clear HB; have HI139 := n0_; have HB := n1_; clear n0_ n1_; (try clear hb); (try clear hb2); (try clear hk); (try clear hi)))
                go_ret
                exact ⟨by first | rfl | (simp [errW_none, errW_some] <;> rfl) | (simp [*, errW_none, errW_some] <;> rfl), by repeat (first | (with_reducible first | exact HB.out | apply below_alloc | apply pw_below_drewN | apply below_drew1 | refine below_set ?_ (IsS46.ge HI139.out)) | exact HB.out)⟩
            · rw [if_neg c12] at H
              have c12b0 : (t144.toList == ([255, 255, 255, 255] : List UInt8)) = false := beq_eq_false_iff_ne.mpr c12
              have c12b1 : (t144.toList != ([255, 255, 255, 255] : List UInt8)) = true := bne_iff_ne.mpr c12
              obtain rfl := Option.some.inj H
              go_enter Try.func8, Try.ntmps8
              go_wp2_with (first | ((with_reducible refine gate_callee (f := 9) rfl ?_); refine goesL_ (some 10) rfl rfl Try.func9 (by kernel_rfl) rfl #[.int .i64 2, .int .i64 258] rfl (by (try simp only [List.map_toArray, List.map_cons, List.map_nil]); first | done | rfl | (simp only [List.length_drop, List.length_take]; rfl)) ?_; (with_reducible refine (octets_Put.calls k 2 258 t130 t131 _ A1.out).mono ?_); rintro e w49 ⟨rfl, hb⟩; refine ⟨_, rfl, ?_⟩; have n0_ := Aside0.mk (below_step (by repeat (first | (with_reducible first | exact HB.out | apply below_alloc | apply pw_below_drewN | apply below_drew1) | exact HB.out)) hb); clear HB; have HB := n0_; clear n0_; (try clear hb); (try clear hb2); (try clear hk); (try clear hi)) | ((with_reducible refine gate_callee (f := 11) rfl ?_); refine goesL_ (some 14) rfl rfl Try.func11 (by kernel_rfl) rfl #[.int .i64 2, .int .i64 258] rfl (by (try simp only [List.map_toArray, List.map_cons, List.map_nil]); first | done | rfl | (simp only [List.length_drop, List.length_take]; rfl)) ?_; (with_reducible refine (octets_Little.calls k 2 258 t132 t133 _ A2.out).mono ?_); rintro e w50 ⟨rfl, hb⟩; refine ⟨_, rfl, ?_⟩; have n0_ := Aside0.mk (below_step (by repeat (first | (with_reducible first | exact HB.out | apply below_alloc | apply pw_below_drewN | apply below_drew1) | exact HB.out)) hb); clear HB; have HB := n0_; clear n0_; (try clear hb); (try clear hb2); (try clear hk); (try clear hi)) | ((with_reducible refine gate_callee (f := 9) rfl ?_); refine goesL_ (some 18) rfl rfl Try.func9 (by kernel_rfl) rfl #[.int .i64 3, .int .i64 1] rfl (by (try simp only [List.map_toArray, List.map_cons, List.map_nil]); first | done | rfl | (simp only [List.length_drop, List.length_take]; rfl)) ?_; (with_reducible refine (octets_Put.calls k 3 1 t134 t135 _ A3.out).mono ?_); rintro e w51 ⟨rfl, hb⟩; refine ⟨_, rfl, ?_⟩; have n0_ := Aside0.mk (below_step (by repeat (first | (with_reducible first | exact HB.out | apply below_alloc | apply pw_below_drewN | apply below_drew1) | exact HB.out)) hb); clear HB; have HB := n0_; clear n0_; (try clear hb); (try clear hb2); (try clear hk); (try clear hi)) | ((with_reducible refine gate_callee (f := 15) rfl ?_); refine goesL_ (some 21) rfl rfl Try.func15 (by kernel_rfl) rfl #[.string (⟨#[1, 2, 3]⟩ : ByteArray)] rfl (by (try simp only [List.map_toArray, List.map_cons, List.map_nil]); first | done | rfl | (simp only [List.length_drop, List.length_take]; rfl)) ?_; (with_reducible refine (octets_New.calls (⟨#[1, 2, 3]⟩ : ByteArray) t136 t137 t138 w _ ?side1 A4.out).mono ?_); (case side1 => repeat (first | (with_reducible first | exact HB.out | apply below_alloc | apply pw_below_drewN | apply below_drew1) | exact HB.out)); rintro e w52 ⟨g139, rfl, hi, hb, hb2⟩; refine ⟨_, rfl, ?_⟩; have n0_ := Aside0.mk (hb); have n1_ := Aside0.mk (hi); clear HB; have HB := n0_; have HI139 := n1_; clear n0_ n1_; (try clear hb); (try clear hb2); (try clear hk); (try clear hi)) | ((with_reducible refine gate_callee (f := 20) rfl ?_); refine goesL_ (some 25) rfl rfl Try.func20 (by kernel_rfl) rfl #[.pointer (some ⟨g139, 0, none⟩), .int .i64 2] rfl (by (try simp only [List.map_toArray, List.map_cons, List.map_nil]); first | done | rfl | (simp only [List.length_drop, List.length_take]; rfl)) ?_; (with_reducible refine (octets_Cursor_Int.calls g139 t136 t137 t138 2 t140 t141 t142 t143 w _ ?side1 ?side2 A5.out).mono ?_); (case side1 => repeat (first | (with_reducible first | exact HI139.out | apply IsS46.alloc | apply IsS46.drewN | apply IsS46.drew | apply IsS46.set_0 | apply IsS46.set_1 | apply IsS46.set_2) | exact HI139.out)); (case side2 => repeat (first | (with_reducible first | exact HB.out | apply below_alloc | apply pw_below_drewN | apply below_drew1 | refine below_set ?_ (IsS46.ge HI139.out)) | exact HB.out)); rintro e w53 ⟨rfl, hi, hb, hk⟩; refine ⟨_, rfl, ?_⟩; have n0_ := Aside0.mk (hb); have n1_ := Aside0.mk (hi); clear HB; clear HI139; have HB := n0_; have HI139 := n1_; clear n0_ n1_; (try clear hb); (try clear hb2); (try clear hk); (try clear hi)) | (go_at_call 13; (with_reducible refine (octets_Signed.calls k (-1) t144 _ A11.out).mono ?_); rintro e w54 ⟨rfl, hb⟩; have n0_ := Aside0.mk (IsS46.below (by repeat (first | (with_reducible first | exact HI139.out | apply IsS46.alloc | apply IsS46.drewN | apply IsS46.drew | apply IsS46.set_0 | apply IsS46.set_1 | apply IsS46.set_2) | exact HI139.out)) hb); have n1_ := Aside0.mk (below_step (by repeat (first | (with_reducible first | exact HB.out | apply below_alloc | apply pw_below_drewN | apply below_drew1 | refine below_set ?_ (IsS46.ge HI139.out)) | exact HB.out)) hb); clear HI139; clear HB; have HI139 := n0_; have HB := n1_; clear n0_ n1_; (try clear hb); (try clear hb2); (try clear hk); (try clear hi)))
              go_ret
              exact ⟨by first | rfl | (simp [errW_none, errW_some] <;> rfl) | (simp [*, errW_none, errW_some] <;> rfl), by repeat (first | (with_reducible first | exact HB.out | apply below_alloc | apply pw_below_drewN | apply below_drew1 | refine below_set ?_ (IsS46.ge HI139.out)) | exact HB.out)⟩
          · rw [if_neg c10] at H
            have c10b0 : (t135 == 1) = false := beq_eq_false_iff_ne.mpr c10
            have c10b1 : (t135 != 1) = true := bne_iff_ne.mpr c10
            obtain rfl := Option.some.inj H
            go_enter Try.func8, Try.ntmps8
            go_wp2_with (first | ((with_reducible refine gate_callee (f := 9) rfl ?_); refine goesL_ (some 10) rfl rfl Try.func9 (by kernel_rfl) rfl #[.int .i64 2, .int .i64 258] rfl (by (try simp only [List.map_toArray, List.map_cons, List.map_nil]); first | done | rfl | (simp only [List.length_drop, List.length_take]; rfl)) ?_; (with_reducible refine (octets_Put.calls k 2 258 t130 t131 _ A1.out).mono ?_); rintro e w55 ⟨rfl, hb⟩; refine ⟨_, rfl, ?_⟩; have n0_ := Aside0.mk (below_step (by repeat (first | (with_reducible first | exact HB.out | apply below_alloc | apply pw_below_drewN | apply below_drew1) | exact HB.out)) hb); clear HB; have HB := n0_; clear n0_; (try clear hb); (try clear hb2); (try clear hk); (try clear hi)) | ((with_reducible refine gate_callee (f := 11) rfl ?_); refine goesL_ (some 14) rfl rfl Try.func11 (by kernel_rfl) rfl #[.int .i64 2, .int .i64 258] rfl (by (try simp only [List.map_toArray, List.map_cons, List.map_nil]); first | done | rfl | (simp only [List.length_drop, List.length_take]; rfl)) ?_; (with_reducible refine (octets_Little.calls k 2 258 t132 t133 _ A2.out).mono ?_); rintro e w56 ⟨rfl, hb⟩; refine ⟨_, rfl, ?_⟩; have n0_ := Aside0.mk (below_step (by repeat (first | (with_reducible first | exact HB.out | apply below_alloc | apply pw_below_drewN | apply below_drew1) | exact HB.out)) hb); clear HB; have HB := n0_; clear n0_; (try clear hb); (try clear hb2); (try clear hk); (try clear hi)) | ((with_reducible refine gate_callee (f := 9) rfl ?_); refine goesL_ (some 18) rfl rfl Try.func9 (by kernel_rfl) rfl #[.int .i64 3, .int .i64 1] rfl (by (try simp only [List.map_toArray, List.map_cons, List.map_nil]); first | done | rfl | (simp only [List.length_drop, List.length_take]; rfl)) ?_; (with_reducible refine (octets_Put.calls k 3 1 t134 t135 _ A3.out).mono ?_); rintro e w57 ⟨rfl, hb⟩; refine ⟨_, rfl, ?_⟩; have n0_ := Aside0.mk (below_step (by repeat (first | (with_reducible first | exact HB.out | apply below_alloc | apply pw_below_drewN | apply below_drew1) | exact HB.out)) hb); clear HB; have HB := n0_; clear n0_; (try clear hb); (try clear hb2); (try clear hk); (try clear hi)) | ((with_reducible refine gate_callee (f := 15) rfl ?_); refine goesL_ (some 21) rfl rfl Try.func15 (by kernel_rfl) rfl #[.string (⟨#[1, 2, 3]⟩ : ByteArray)] rfl (by (try simp only [List.map_toArray, List.map_cons, List.map_nil]); first | done | rfl | (simp only [List.length_drop, List.length_take]; rfl)) ?_; (with_reducible refine (octets_New.calls (⟨#[1, 2, 3]⟩ : ByteArray) t136 t137 t138 w _ ?side1 A4.out).mono ?_); (case side1 => repeat (first | (with_reducible first | exact HB.out | apply below_alloc | apply pw_below_drewN | apply below_drew1) | exact HB.out)); rintro e w58 ⟨g139, rfl, hi, hb, hb2⟩; refine ⟨_, rfl, ?_⟩; have n0_ := Aside0.mk (hb); have n1_ := Aside0.mk (hi); clear HB; have HB := n0_; have HI139 := n1_; clear n0_ n1_; (try clear hb); (try clear hb2); (try clear hk); (try clear hi)) | ((with_reducible refine gate_callee (f := 20) rfl ?_); refine goesL_ (some 25) rfl rfl Try.func20 (by kernel_rfl) rfl #[.pointer (some ⟨g139, 0, none⟩), .int .i64 2] rfl (by (try simp only [List.map_toArray, List.map_cons, List.map_nil]); first | done | rfl | (simp only [List.length_drop, List.length_take]; rfl)) ?_; (with_reducible refine (octets_Cursor_Int.calls g139 t136 t137 t138 2 t140 t141 t142 t143 w _ ?side1 ?side2 A5.out).mono ?_); (case side1 => repeat (first | (with_reducible first | exact HI139.out | apply IsS46.alloc | apply IsS46.drewN | apply IsS46.drew | apply IsS46.set_0 | apply IsS46.set_1 | apply IsS46.set_2) | exact HI139.out)); (case side2 => repeat (first | (with_reducible first | exact HB.out | apply below_alloc | apply pw_below_drewN | apply below_drew1 | refine below_set ?_ (IsS46.ge HI139.out)) | exact HB.out)); rintro e w59 ⟨rfl, hi, hb, hk⟩; refine ⟨_, rfl, ?_⟩; have n0_ := Aside0.mk (hb); have n1_ := Aside0.mk (hi); clear HB; clear HI139; have HB := n0_; have HI139 := n1_; clear n0_ n1_; (try clear hb); (try clear hb2); (try clear hk); (try clear hi)))
            go_ret
            exact ⟨by first | rfl | (simp [errW_none, errW_some] <;> rfl) | (simp [*, errW_none, errW_some] <;> rfl), by repeat (first | (with_reducible first | exact HB.out | apply below_alloc | apply pw_below_drewN | apply below_drew1 | refine below_set ?_ (IsS46.ge HI139.out)) | exact HB.out)⟩
        · rw [if_neg c9] at H
          have c9b0 : (t133 == 0) = false := beq_eq_false_iff_ne.mpr c9
          have c9b1 : (t133 != 0) = true := bne_iff_ne.mpr c9
          obtain rfl := Option.some.inj H
          go_enter Try.func8, Try.ntmps8
          go_wp2_with (first | ((with_reducible refine gate_callee (f := 9) rfl ?_); refine goesL_ (some 10) rfl rfl Try.func9 (by kernel_rfl) rfl #[.int .i64 2, .int .i64 258] rfl (by (try simp only [List.map_toArray, List.map_cons, List.map_nil]); first | done | rfl | (simp only [List.length_drop, List.length_take]; rfl)) ?_; (with_reducible refine (octets_Put.calls k 2 258 t130 t131 _ A1.out).mono ?_); rintro e w60 ⟨rfl, hb⟩; refine ⟨_, rfl, ?_⟩; have n0_ := Aside0.mk (below_step (by repeat (first | (with_reducible first | exact HB.out | apply below_alloc | apply pw_below_drewN | apply below_drew1) | exact HB.out)) hb); clear HB; have HB := n0_; clear n0_; (try clear hb); (try clear hb2); (try clear hk); (try clear hi)) | ((with_reducible refine gate_callee (f := 11) rfl ?_); refine goesL_ (some 14) rfl rfl Try.func11 (by kernel_rfl) rfl #[.int .i64 2, .int .i64 258] rfl (by (try simp only [List.map_toArray, List.map_cons, List.map_nil]); first | done | rfl | (simp only [List.length_drop, List.length_take]; rfl)) ?_; (with_reducible refine (octets_Little.calls k 2 258 t132 t133 _ A2.out).mono ?_); rintro e w61 ⟨rfl, hb⟩; refine ⟨_, rfl, ?_⟩; have n0_ := Aside0.mk (below_step (by repeat (first | (with_reducible first | exact HB.out | apply below_alloc | apply pw_below_drewN | apply below_drew1) | exact HB.out)) hb); clear HB; have HB := n0_; clear n0_; (try clear hb); (try clear hb2); (try clear hk); (try clear hi)) | ((with_reducible refine gate_callee (f := 9) rfl ?_); refine goesL_ (some 18) rfl rfl Try.func9 (by kernel_rfl) rfl #[.int .i64 3, .int .i64 1] rfl (by (try simp only [List.map_toArray, List.map_cons, List.map_nil]); first | done | rfl | (simp only [List.length_drop, List.length_take]; rfl)) ?_; (with_reducible refine (octets_Put.calls k 3 1 t134 t135 _ A3.out).mono ?_); rintro e w62 ⟨rfl, hb⟩; refine ⟨_, rfl, ?_⟩; have n0_ := Aside0.mk (below_step (by repeat (first | (with_reducible first | exact HB.out | apply below_alloc | apply pw_below_drewN | apply below_drew1) | exact HB.out)) hb); clear HB; have HB := n0_; clear n0_; (try clear hb); (try clear hb2); (try clear hk); (try clear hi)) | ((with_reducible refine gate_callee (f := 15) rfl ?_); refine goesL_ (some 21) rfl rfl Try.func15 (by kernel_rfl) rfl #[.string (⟨#[1, 2, 3]⟩ : ByteArray)] rfl (by (try simp only [List.map_toArray, List.map_cons, List.map_nil]); first | done | rfl | (simp only [List.length_drop, List.length_take]; rfl)) ?_; (with_reducible refine (octets_New.calls (⟨#[1, 2, 3]⟩ : ByteArray) t136 t137 t138 w _ ?side1 A4.out).mono ?_); (case side1 => repeat (first | (with_reducible first | exact HB.out | apply below_alloc | apply pw_below_drewN | apply below_drew1) | exact HB.out)); rintro e w63 ⟨g139, rfl, hi, hb, hb2⟩; refine ⟨_, rfl, ?_⟩; have n0_ := Aside0.mk (hb); have n1_ := Aside0.mk (hi); clear HB; have HB := n0_; have HI139 := n1_; clear n0_ n1_; (try clear hb); (try clear hb2); (try clear hk); (try clear hi)) | ((with_reducible refine gate_callee (f := 20) rfl ?_); refine goesL_ (some 25) rfl rfl Try.func20 (by kernel_rfl) rfl #[.pointer (some ⟨g139, 0, none⟩), .int .i64 2] rfl (by (try simp only [List.map_toArray, List.map_cons, List.map_nil]); first | done | rfl | (simp only [List.length_drop, List.length_take]; rfl)) ?_; (with_reducible refine (octets_Cursor_Int.calls g139 t136 t137 t138 2 t140 t141 t142 t143 w _ ?side1 ?side2 A5.out).mono ?_); (case side1 => repeat (first | (with_reducible first | exact HI139.out | apply IsS46.alloc | apply IsS46.drewN | apply IsS46.drew | apply IsS46.set_0 | apply IsS46.set_1 | apply IsS46.set_2) | exact HI139.out)); (case side2 => repeat (first | (with_reducible first | exact HB.out | apply below_alloc | apply pw_below_drewN | apply below_drew1 | refine below_set ?_ (IsS46.ge HI139.out)) | exact HB.out)); rintro e w64 ⟨rfl, hi, hb, hk⟩; refine ⟨_, rfl, ?_⟩; have n0_ := Aside0.mk (hb); have n1_ := Aside0.mk (hi); clear HB; clear HI139; have HB := n0_; have HI139 := n1_; clear n0_ n1_; (try clear hb); (try clear hb2); (try clear hk); (try clear hi)))
          go_ret
          exact ⟨by first | rfl | (simp [errW_none, errW_some] <;> rfl) | (simp [*, errW_none, errW_some] <;> rfl), by repeat (first | (with_reducible first | exact HB.out | apply below_alloc | apply pw_below_drewN | apply below_drew1 | refine below_set ?_ (IsS46.ge HI139.out)) | exact HB.out)⟩
      · rw [if_neg c8] at H
        have c8b0 : (t132.toList == ([2, 1] : List UInt8)) = false := beq_eq_false_iff_ne.mpr c8
        have c8b1 : (t132.toList != ([2, 1] : List UInt8)) = true := bne_iff_ne.mpr c8
        obtain rfl := Option.some.inj H
        go_enter Try.func8, Try.ntmps8
        go_wp2_with (first | ((with_reducible refine gate_callee (f := 9) rfl ?_); refine goesL_ (some 10) rfl rfl Try.func9 (by kernel_rfl) rfl #[.int .i64 2, .int .i64 258] rfl (by (try simp only [List.map_toArray, List.map_cons, List.map_nil]); first | done | rfl | (simp only [List.length_drop, List.length_take]; rfl)) ?_; (with_reducible refine (octets_Put.calls k 2 258 t130 t131 _ A1.out).mono ?_); rintro e w65 ⟨rfl, hb⟩; refine ⟨_, rfl, ?_⟩; have n0_ := Aside0.mk (below_step (by repeat (first | (with_reducible first | exact HB.out | apply below_alloc | apply pw_below_drewN | apply below_drew1) | exact HB.out)) hb); clear HB; have HB := n0_; clear n0_; (try clear hb); (try clear hb2); (try clear hk); (try clear hi)) | ((with_reducible refine gate_callee (f := 11) rfl ?_); refine goesL_ (some 14) rfl rfl Try.func11 (by kernel_rfl) rfl #[.int .i64 2, .int .i64 258] rfl (by (try simp only [List.map_toArray, List.map_cons, List.map_nil]); first | done | rfl | (simp only [List.length_drop, List.length_take]; rfl)) ?_; (with_reducible refine (octets_Little.calls k 2 258 t132 t133 _ A2.out).mono ?_); rintro e w66 ⟨rfl, hb⟩; refine ⟨_, rfl, ?_⟩; have n0_ := Aside0.mk (below_step (by repeat (first | (with_reducible first | exact HB.out | apply below_alloc | apply pw_below_drewN | apply below_drew1) | exact HB.out)) hb); clear HB; have HB := n0_; clear n0_; (try clear hb); (try clear hb2); (try clear hk); (try clear hi)) | ((with_reducible refine gate_callee (f := 9) rfl ?_); refine goesL_ (some 18) rfl rfl Try.func9 (by kernel_rfl) rfl #[.int .i64 3, .int .i64 1] rfl (by (try simp only [List.map_toArray, List.map_cons, List.map_nil]); first | done | rfl | (simp only [List.length_drop, List.length_take]; rfl)) ?_; (with_reducible refine (octets_Put.calls k 3 1 t134 t135 _ A3.out).mono ?_); rintro e w67 ⟨rfl, hb⟩; refine ⟨_, rfl, ?_⟩; have n0_ := Aside0.mk (below_step (by repeat (first | (with_reducible first | exact HB.out | apply below_alloc | apply pw_below_drewN | apply below_drew1) | exact HB.out)) hb); clear HB; have HB := n0_; clear n0_; (try clear hb); (try clear hb2); (try clear hk); (try clear hi)) | ((with_reducible refine gate_callee (f := 15) rfl ?_); refine goesL_ (some 21) rfl rfl Try.func15 (by kernel_rfl) rfl #[.string (⟨#[1, 2, 3]⟩ : ByteArray)] rfl (by (try simp only [List.map_toArray, List.map_cons, List.map_nil]); first | done | rfl | (simp only [List.length_drop, List.length_take]; rfl)) ?_; (with_reducible refine (octets_New.calls (⟨#[1, 2, 3]⟩ : ByteArray) t136 t137 t138 w _ ?side1 A4.out).mono ?_); (case side1 => repeat (first | (with_reducible first | exact HB.out | apply below_alloc | apply pw_below_drewN | apply below_drew1) | exact HB.out)); rintro e w68 ⟨g139, rfl, hi, hb, hb2⟩; refine ⟨_, rfl, ?_⟩; have n0_ := Aside0.mk (hb); have n1_ := Aside0.mk (hi); clear HB; have HB := n0_; have HI139 := n1_; clear n0_ n1_; (try clear hb); (try clear hb2); (try clear hk); (try clear hi)) | ((with_reducible refine gate_callee (f := 20) rfl ?_); refine goesL_ (some 25) rfl rfl Try.func20 (by kernel_rfl) rfl #[.pointer (some ⟨g139, 0, none⟩), .int .i64 2] rfl (by (try simp only [List.map_toArray, List.map_cons, List.map_nil]); first | done | rfl | (simp only [List.length_drop, List.length_take]; rfl)) ?_; (with_reducible refine (octets_Cursor_Int.calls g139 t136 t137 t138 2 t140 t141 t142 t143 w _ ?side1 ?side2 A5.out).mono ?_); (case side1 => repeat (first | (with_reducible first | exact HI139.out | apply IsS46.alloc | apply IsS46.drewN | apply IsS46.drew | apply IsS46.set_0 | apply IsS46.set_1 | apply IsS46.set_2) | exact HI139.out)); (case side2 => repeat (first | (with_reducible first | exact HB.out | apply below_alloc | apply pw_below_drewN | apply below_drew1 | refine below_set ?_ (IsS46.ge HI139.out)) | exact HB.out)); rintro e w69 ⟨rfl, hi, hb, hk⟩; refine ⟨_, rfl, ?_⟩; have n0_ := Aside0.mk (hb); have n1_ := Aside0.mk (hi); clear HB; clear HI139; have HB := n0_; have HI139 := n1_; clear n0_ n1_; (try clear hb); (try clear hb2); (try clear hk); (try clear hi)))
        go_ret
        exact ⟨by first | rfl | (simp [errW_none, errW_some] <;> rfl) | (simp [*, errW_none, errW_some] <;> rfl), by repeat (first | (with_reducible first | exact HB.out | apply below_alloc | apply pw_below_drewN | apply below_drew1 | refine below_set ?_ (IsS46.ge HI139.out)) | exact HB.out)⟩
    · rw [if_neg c7] at H
      have c7b0 : (t131 == 0) = false := beq_eq_false_iff_ne.mpr c7
      have c7b1 : (t131 != 0) = true := bne_iff_ne.mpr c7
      obtain rfl := Option.some.inj H
      go_enter Try.func8, Try.ntmps8
      go_wp2_with (first | ((with_reducible refine gate_callee (f := 9) rfl ?_); refine goesL_ (some 10) rfl rfl Try.func9 (by kernel_rfl) rfl #[.int .i64 2, .int .i64 258] rfl (by (try simp only [List.map_toArray, List.map_cons, List.map_nil]); first | done | rfl | (simp only [List.length_drop, List.length_take]; rfl)) ?_; (with_reducible refine (octets_Put.calls k 2 258 t130 t131 _ A1.out).mono ?_); rintro e w70 ⟨rfl, hb⟩; refine ⟨_, rfl, ?_⟩; have n0_ := Aside0.mk (below_step (by repeat (first | (with_reducible first | exact HB.out | apply below_alloc | apply pw_below_drewN | apply below_drew1) | exact HB.out)) hb); clear HB; have HB := n0_; clear n0_; (try clear hb); (try clear hb2); (try clear hk); (try clear hi)) | ((with_reducible refine gate_callee (f := 11) rfl ?_); refine goesL_ (some 14) rfl rfl Try.func11 (by kernel_rfl) rfl #[.int .i64 2, .int .i64 258] rfl (by (try simp only [List.map_toArray, List.map_cons, List.map_nil]); first | done | rfl | (simp only [List.length_drop, List.length_take]; rfl)) ?_; (with_reducible refine (octets_Little.calls k 2 258 t132 t133 _ A2.out).mono ?_); rintro e w71 ⟨rfl, hb⟩; refine ⟨_, rfl, ?_⟩; have n0_ := Aside0.mk (below_step (by repeat (first | (with_reducible first | exact HB.out | apply below_alloc | apply pw_below_drewN | apply below_drew1) | exact HB.out)) hb); clear HB; have HB := n0_; clear n0_; (try clear hb); (try clear hb2); (try clear hk); (try clear hi)) | ((with_reducible refine gate_callee (f := 9) rfl ?_); refine goesL_ (some 18) rfl rfl Try.func9 (by kernel_rfl) rfl #[.int .i64 3, .int .i64 1] rfl (by (try simp only [List.map_toArray, List.map_cons, List.map_nil]); first | done | rfl | (simp only [List.length_drop, List.length_take]; rfl)) ?_; (with_reducible refine (octets_Put.calls k 3 1 t134 t135 _ A3.out).mono ?_); rintro e w72 ⟨rfl, hb⟩; refine ⟨_, rfl, ?_⟩; have n0_ := Aside0.mk (below_step (by repeat (first | (with_reducible first | exact HB.out | apply below_alloc | apply pw_below_drewN | apply below_drew1) | exact HB.out)) hb); clear HB; have HB := n0_; clear n0_; (try clear hb); (try clear hb2); (try clear hk); (try clear hi)) | ((with_reducible refine gate_callee (f := 15) rfl ?_); refine goesL_ (some 21) rfl rfl Try.func15 (by kernel_rfl) rfl #[.string (⟨#[1, 2, 3]⟩ : ByteArray)] rfl (by (try simp only [List.map_toArray, List.map_cons, List.map_nil]); first | done | rfl | (simp only [List.length_drop, List.length_take]; rfl)) ?_; (with_reducible refine (octets_New.calls (⟨#[1, 2, 3]⟩ : ByteArray) t136 t137 t138 w _ ?side1 A4.out).mono ?_); (case side1 => repeat (first | (with_reducible first | exact HB.out | apply below_alloc | apply pw_below_drewN | apply below_drew1) | exact HB.out)); rintro e w73 ⟨g139, rfl, hi, hb, hb2⟩; refine ⟨_, rfl, ?_⟩; have n0_ := Aside0.mk (hb); have n1_ := Aside0.mk (hi); clear HB; have HB := n0_; have HI139 := n1_; clear n0_ n1_; (try clear hb); (try clear hb2); (try clear hk); (try clear hi)) | ((with_reducible refine gate_callee (f := 20) rfl ?_); refine goesL_ (some 25) rfl rfl Try.func20 (by kernel_rfl) rfl #[.pointer (some ⟨g139, 0, none⟩), .int .i64 2] rfl (by (try simp only [List.map_toArray, List.map_cons, List.map_nil]); first | done | rfl | (simp only [List.length_drop, List.length_take]; rfl)) ?_; (with_reducible refine (octets_Cursor_Int.calls g139 t136 t137 t138 2 t140 t141 t142 t143 w _ ?side1 ?side2 A5.out).mono ?_); (case side1 => repeat (first | (with_reducible first | exact HI139.out | apply IsS46.alloc | apply IsS46.drewN | apply IsS46.drew | apply IsS46.set_0 | apply IsS46.set_1 | apply IsS46.set_2) | exact HI139.out)); (case side2 => repeat (first | (with_reducible first | exact HB.out | apply below_alloc | apply pw_below_drewN | apply below_drew1 | refine below_set ?_ (IsS46.ge HI139.out)) | exact HB.out)); rintro e w74 ⟨rfl, hi, hb, hk⟩; refine ⟨_, rfl, ?_⟩; have n0_ := Aside0.mk (hb); have n1_ := Aside0.mk (hi); clear HB; clear HI139; have HB := n0_; have HI139 := n1_; clear n0_ n1_; (try clear hb); (try clear hb2); (try clear hk); (try clear hi)))
      go_ret
      exact ⟨by first | rfl | (simp [errW_none, errW_some] <;> rfl) | (simp [*, errW_none, errW_some] <;> rfl), by repeat (first | (with_reducible first | exact HB.out | apply below_alloc | apply pw_below_drewN | apply below_drew1 | refine below_set ?_ (IsS46.ge HI139.out)) | exact HB.out)⟩
  · rw [if_neg c6] at H
    have c6b0 : (t130.toList == ([1, 2] : List UInt8)) = false := beq_eq_false_iff_ne.mpr c6
    have c6b1 : (t130.toList != ([1, 2] : List UInt8)) = true := bne_iff_ne.mpr c6
    obtain rfl := Option.some.inj H
    go_enter Try.func8, Try.ntmps8
    go_wp2_with (first | ((with_reducible refine gate_callee (f := 9) rfl ?_); refine goesL_ (some 10) rfl rfl Try.func9 (by kernel_rfl) rfl #[.int .i64 2, .int .i64 258] rfl (by (try simp only [List.map_toArray, List.map_cons, List.map_nil]); first | done | rfl | (simp only [List.length_drop, List.length_take]; rfl)) ?_; (with_reducible refine (octets_Put.calls k 2 258 t130 t131 _ A1.out).mono ?_); rintro e w75 ⟨rfl, hb⟩; refine ⟨_, rfl, ?_⟩; have n0_ := Aside0.mk (below_step (by repeat (first | (with_reducible first | exact HB.out | apply below_alloc | apply pw_below_drewN | apply below_drew1) | exact HB.out)) hb); clear HB; have HB := n0_; clear n0_; (try clear hb); (try clear hb2); (try clear hk); (try clear hi)) | ((with_reducible refine gate_callee (f := 11) rfl ?_); refine goesL_ (some 14) rfl rfl Try.func11 (by kernel_rfl) rfl #[.int .i64 2, .int .i64 258] rfl (by (try simp only [List.map_toArray, List.map_cons, List.map_nil]); first | done | rfl | (simp only [List.length_drop, List.length_take]; rfl)) ?_; (with_reducible refine (octets_Little.calls k 2 258 t132 t133 _ A2.out).mono ?_); rintro e w76 ⟨rfl, hb⟩; refine ⟨_, rfl, ?_⟩; have n0_ := Aside0.mk (below_step (by repeat (first | (with_reducible first | exact HB.out | apply below_alloc | apply pw_below_drewN | apply below_drew1) | exact HB.out)) hb); clear HB; have HB := n0_; clear n0_; (try clear hb); (try clear hb2); (try clear hk); (try clear hi)) | ((with_reducible refine gate_callee (f := 9) rfl ?_); refine goesL_ (some 18) rfl rfl Try.func9 (by kernel_rfl) rfl #[.int .i64 3, .int .i64 1] rfl (by (try simp only [List.map_toArray, List.map_cons, List.map_nil]); first | done | rfl | (simp only [List.length_drop, List.length_take]; rfl)) ?_; (with_reducible refine (octets_Put.calls k 3 1 t134 t135 _ A3.out).mono ?_); rintro e w77 ⟨rfl, hb⟩; refine ⟨_, rfl, ?_⟩; have n0_ := Aside0.mk (below_step (by repeat (first | (with_reducible first | exact HB.out | apply below_alloc | apply pw_below_drewN | apply below_drew1) | exact HB.out)) hb); clear HB; have HB := n0_; clear n0_; (try clear hb); (try clear hb2); (try clear hk); (try clear hi)) | ((with_reducible refine gate_callee (f := 15) rfl ?_); refine goesL_ (some 21) rfl rfl Try.func15 (by kernel_rfl) rfl #[.string (⟨#[1, 2, 3]⟩ : ByteArray)] rfl (by (try simp only [List.map_toArray, List.map_cons, List.map_nil]); first | done | rfl | (simp only [List.length_drop, List.length_take]; rfl)) ?_; (with_reducible refine (octets_New.calls (⟨#[1, 2, 3]⟩ : ByteArray) t136 t137 t138 w _ ?side1 A4.out).mono ?_); (case side1 => repeat (first | (with_reducible first | exact HB.out | apply below_alloc | apply pw_below_drewN | apply below_drew1) | exact HB.out)); rintro e w78 ⟨g139, rfl, hi, hb, hb2⟩; refine ⟨_, rfl, ?_⟩; have n0_ := Aside0.mk (hb); have n1_ := Aside0.mk (hi); clear HB; have HB := n0_; have HI139 := n1_; clear n0_ n1_; (try clear hb); (try clear hb2); (try clear hk); (try clear hi)) | ((with_reducible refine gate_callee (f := 20) rfl ?_); refine goesL_ (some 25) rfl rfl Try.func20 (by kernel_rfl) rfl #[.pointer (some ⟨g139, 0, none⟩), .int .i64 2] rfl (by (try simp only [List.map_toArray, List.map_cons, List.map_nil]); first | done | rfl | (simp only [List.length_drop, List.length_take]; rfl)) ?_; (with_reducible refine (octets_Cursor_Int.calls g139 t136 t137 t138 2 t140 t141 t142 t143 w _ ?side1 ?side2 A5.out).mono ?_); (case side1 => repeat (first | (with_reducible first | exact HI139.out | apply IsS46.alloc | apply IsS46.drewN | apply IsS46.drew | apply IsS46.set_0 | apply IsS46.set_1 | apply IsS46.set_2) | exact HI139.out)); (case side2 => repeat (first | (with_reducible first | exact HB.out | apply below_alloc | apply pw_below_drewN | apply below_drew1 | refine below_set ?_ (IsS46.ge HI139.out)) | exact HB.out)); rintro e w79 ⟨rfl, hi, hb, hk⟩; refine ⟨_, rfl, ?_⟩; have n0_ := Aside0.mk (hb); have n1_ := Aside0.mk (hi); clear HB; clear HI139; have HB := n0_; have HI139 := n1_; clear n0_ n1_; (try clear hb); (try clear hb2); (try clear hk); (try clear hi)))
    go_ret
    exact ⟨by first | rfl | (simp [errW_none, errW_some] <;> rfl) | (simp [*, errW_none, errW_some] <;> rfl), by repeat (first | (with_reducible first | exact HB.out | apply below_alloc | apply pw_below_drewN | apply below_drew1 | refine below_set ?_ (IsS46.ge HI139.out)) | exact HB.out)⟩

/-! ### miradorref01_Size: function 30 -/
def miradorref01_Size.f (a0 : Int) : Option (Bool) := if a0 = 1 then (some true) else (if a0 = 2 then (some true) else (some (a0 == 4)))
set_option maxHeartbeats 8000000 in
set_option maxRecDepth 100000 in
theorem miradorref01_Size.calls (a0 : Int) (r : Bool) (w : World) (h : miradorref01_Size.f a0 = some r) :
    Calls Try.prog 30 #[.int .i64 a0] w fun e w' => e = .returned (.bool r) ∧ Drawn0 w w' := by
  have H : (if a0 = 1 then (some true) else (if a0 = 2 then (some true) else (some (a0 == 4)))) = some r := h
  clear h
  by_cases c2 : a0 = 1
  · rw [if_pos c2] at H
    have c2b0 : (a0 == 1) = true := beq_iff_eq.mpr c2
    have c2b1 : (a0 != 1) = false := bne_eq_false_iff_eq.mpr c2
    clear c2
    obtain rfl := Option.some.inj H
    go_enter Try.func30, Try.ntmps30
    go_wp2
    go_ret
    exact ⟨by first | rfl | (simp; done) | (simp [*]; done), by repeat (first | exact Drawn0.refl _ | apply Drawn0.step)⟩
  · rw [if_neg c2] at H
    have c2b0 : (a0 == 1) = false := beq_eq_false_iff_ne.mpr c2
    have c2b1 : (a0 != 1) = true := bne_iff_ne.mpr c2
    by_cases c3 : a0 = 2
    · rw [if_pos c3] at H
      have c3b0 : (a0 == 2) = true := beq_iff_eq.mpr c3
      have c3b1 : (a0 != 2) = false := bne_eq_false_iff_eq.mpr c3
      clear c3
      obtain rfl := Option.some.inj H
      go_enter Try.func30, Try.ntmps30
      go_wp2
      go_ret
      exact ⟨by first | rfl | (simp; done) | (simp [*]; done), by repeat (first | exact Drawn0.refl _ | apply Drawn0.step)⟩
    · rw [if_neg c3] at H
      have c3b0 : (a0 == 2) = false := beq_eq_false_iff_ne.mpr c3
      have c3b1 : (a0 != 2) = true := bne_iff_ne.mpr c3
      obtain rfl := Option.some.inj H
      go_enter Try.func30, Try.ntmps30
      go_wp2
      go_ret
      exact ⟨by first | rfl | (simp; done) | (simp [*]; done), by repeat (first | exact Drawn0.refl _ | apply Drawn0.step)⟩

/-! ### miradorref01_most: function 31 -/
def miradorref01_most.f (a0 : Int) : Option (Int) := if a0 = 1 then (some 255) else (if a0 = 2 then (some 65535) else (some 4294967295))
set_option maxHeartbeats 8000000 in
set_option maxRecDepth 100000 in
theorem miradorref01_most.calls (a0 : Int) (r : Int) (w : World) (h : miradorref01_most.f a0 = some r) :
    Calls Try.prog 31 #[.int .i64 a0] w fun e w' => e = .returned (.int .i64 r) ∧ Drawn0 w w' := by
  have H : (if a0 = 1 then (some 255) else (if a0 = 2 then (some 65535) else (some 4294967295))) = some r := h
  clear h
  by_cases c2 : a0 = 1
  · rw [if_pos c2] at H
    have c2b0 : (a0 == 1) = true := beq_iff_eq.mpr c2
    have c2b1 : (a0 != 1) = false := bne_eq_false_iff_eq.mpr c2
    clear c2
    obtain rfl := Option.some.inj H
    go_enter Try.func31, Try.ntmps31
    go_wp2
    go_ret
    exact ⟨by first | rfl | (simp; done) | (simp [*]; done), by repeat (first | exact Drawn0.refl _ | apply Drawn0.step)⟩
  · rw [if_neg c2] at H
    have c2b0 : (a0 == 1) = false := beq_eq_false_iff_ne.mpr c2
    have c2b1 : (a0 != 1) = true := bne_iff_ne.mpr c2
    by_cases c3 : a0 = 2
    · rw [if_pos c3] at H
      have c3b0 : (a0 == 2) = true := beq_iff_eq.mpr c3
      have c3b1 : (a0 != 2) = false := bne_eq_false_iff_eq.mpr c3
      clear c3
      obtain rfl := Option.some.inj H
      go_enter Try.func31, Try.ntmps31
      go_wp2
      go_ret
      exact ⟨by first | rfl | (simp; done) | (simp [*]; done), by repeat (first | exact Drawn0.refl _ | apply Drawn0.step)⟩
    · rw [if_neg c3] at H
      have c3b0 : (a0 == 2) = false := beq_eq_false_iff_ne.mpr c3
      have c3b1 : (a0 != 2) = true := bne_iff_ne.mpr c3
      obtain rfl := Option.some.inj H
      go_enter Try.func31, Try.ntmps31
      go_wp2
      go_ret
      exact ⟨by first | rfl | (simp; done) | (simp [*]; done), by repeat (first | exact Drawn0.refl _ | apply Drawn0.step)⟩

end Go.Proofs.Ytcacnnjedfkelaa.X
