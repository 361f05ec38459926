/- What each Go function that these laws use answers: as a Lean function, with the proof that the machine's call comes to it. Written by a program of this session (xprint.py). -/
import Derived.Test.YtclikkhkhoicfaaXx0
import Derived.Test.YtclikkhkhoicfaaXx23
import Derived.Test.YtclikkhkhoicfaaXx25
namespace Go.Proofs.Ytclikkhkhoicfaa.X
open Go.RowKit Go.Proofs.YtclikkhkhoicfaaW.PrintWords Go.Proofs.YtclikkhkhoicfaaW.PrintLast Go.Proofs.YtclikkhkhoicfaaW.PrintMore
attribute [local go_sem] max2_int min2_int max_two min_two max_three min_three max_four min_four   -- for this text's walks alone
set_option linter.unusedVariables false
set_option linter.unusedSimpArgs false

/-! ### miradorref01_Minus: function 43 -/
def miradorref01_Minus.f (a0 : Int) : Option (Int) := if a0 > 2147483647 then (some (wrap64 (a0 - 4294967296))) else (some a0)
set_option maxHeartbeats 8000000 in
set_option maxRecDepth 100000 in
theorem miradorref01_Minus.calls (a0 : Int) (r : Int) (w : World) (h : miradorref01_Minus.f a0 = some r) :
    Calls Try.prog 43 #[.int .i64 a0] w fun e w' => e = .returned (.int .i64 r) ∧ Drawn0 w w' := by
  have H : (if a0 > 2147483647 then (some (wrap64 (a0 - 4294967296))) else (some a0)) = some r := h
  clear h
  by_cases c2 : a0 > 2147483647
  · rw [if_pos c2] at H
    have c2b0 : decide (2147483647 < a0) = true := decide_eq_true c2
    clear c2
    obtain rfl := Option.some.inj H
    go_enter Try.func43, Try.ntmps43
    go_wp2
    go_ret
    exact ⟨by first | rfl | (simp; done) | (simp [*]; done), by repeat (first | exact Drawn0.refl _ | apply Drawn0.step)⟩
  · rw [if_neg c2] at H
    have c2b0 : decide (2147483647 < a0) = false := decide_eq_false c2
    clear c2
    obtain rfl := Option.some.inj H
    go_enter Try.func43, Try.ntmps43
    go_wp2
    go_ret
    exact ⟨by first | rfl | (simp; done) | (simp [*]; done), by repeat (first | exact Drawn0.refl _ | apply Drawn0.step)⟩

/-! ### miradorref01_Cursor_Signed: function 23 -/
def miradorref01_Cursor_Signed.f (k : Nat) (s0_0 : ByteArray) (s0_1 : Int) (s0_2 : Int) : Option (Int × ByteArray × Int × Int) := (miradorref01_Cursor_Int.f k s0_0 s0_1 s0_2 4).bind fun bt189 => ((miradorref01_Minus.f bt189.1).bind fun t193 => (some (t193, bt189.2.1, bt189.2.2.1, bt189.2.2.2)))
theorem miradorref01_Cursor_Signed.mono : ∀ a0 a1 a2 k, LeO (miradorref01_Cursor_Signed.f k a0 a1 a2) (miradorref01_Cursor_Signed.f (k + 1) a0 a1 a2) := by
  intro a0 a1 a2 k
  unfold miradorref01_Cursor_Signed.f
  repeat' first
      | (with_reducible exact miradorref01_Cursor_Int.mono _ _ _ _ _)
      | (with_reducible exact LeO.refl _)
      | (with_reducible exact LeO.none _)
      | (with_reducible refine LeO.ite ?_ ?_)
      | (with_reducible refine LeO.bind ?_ (fun _ => ?_))
      | exact miradorref01_Cursor_Int.mono _ _ _ _ _
      | exact LeO.none _
      | refine LeO.ite ?_ ?_
      | refine LeO.bind ?_ (fun _ => ?_)
set_option maxHeartbeats 8000000 in
set_option maxRecDepth 100000 in
theorem miradorref01_Cursor_Signed.calls (k : Nat) (g : Nat) (s0_0 : ByteArray) (s0_1 : Int) (s0_2 : Int) (r1 : Int) (r2 : ByteArray) (r3 : Int) (r4 : Int) (w0 w : World) (hI : IsS58 w0 w g s0_0 s0_1 s0_2) (hB : Below w0.heap.size w0 w) (h : miradorref01_Cursor_Signed.f k s0_0 s0_1 s0_2 = some (r1, r2, r3, r4)) :
    Calls Try.prog 23 #[.pointer (some ⟨g, 0, none⟩)] w fun e w' => e = .returned (.int .i64 r1) ∧ IsS58 w0 w' g r2 r3 r4 ∧ Below w0.heap.size w0 w' ∧ KeepBut w w' g none := by
  have HI0 := Aside0.mk hI
  have HK := Aside0.mk (KeepBut.refl w g none)
  have HL := Aside0.mk hB.size
  clear hI
  have HW0 := Aside0.mk hB.size
  have HB := Aside0.mk hB
  clear hB
  have H : ((miradorref01_Cursor_Int.f k s0_0 s0_1 s0_2 4).bind fun bt189 => ((miradorref01_Minus.f bt189.1).bind fun t193 => (some (t193, bt189.2.1, bt189.2.2.1, bt189.2.2.2)))) = some (r1, r2, r3, r4) := h
  clear h
  replace H := Option.bind_eq_some_iff.mp H
  obtain ⟨⟨t189, t190, t191, t192⟩, A20, H⟩ := H
  replace H : ((miradorref01_Minus.f t189).bind fun t193 => (some (t193, t190, t191, t192))) = some (r1, r2, r3, r4) := H
  have A2 := Aside0.mk A20
  clear A20
  replace H := Option.bind_eq_some_iff.mp H
  obtain ⟨t193, A30, H⟩ := H
  replace H : (some (t193, t190, t191, t192)) = some (r1, r2, r3, r4) := H
  have A3 := Aside0.mk A30
  clear A30
  simp only [Option.some.injEq, Prod.mk.injEq] at H
  obtain ⟨rfl, rfl, rfl, rfl⟩ := H
  go_enter Try.func23, Try.ntmps23
  go_wp2_with (first | ((with_reducible refine gate_callee (f := 20) rfl ?_); refine goesL_ (some 4) rfl rfl Try.func20 (by kernel_rfl) rfl #[.pointer (some ⟨g, 0, none⟩), .int .i64 4] rfl (by (try simp only [List.map_toArray, List.map_cons, List.map_nil]); first | done | rfl | (simp only [List.length_drop, List.length_take]; rfl)) ?_; (with_reducible refine (miradorref01_Cursor_Int.calls k g s0_0 s0_1 s0_2 4 t189 t190 t191 t192 w0 _ ?side1 ?side2 A2.out).mono ?_); (case side1 => repeat (first | (with_reducible first | exact HI0.out | apply IsS58.alloc | apply IsS58.drewN | apply IsS58.drew | apply IsS58.set_0 | apply IsS58.set_1 | apply IsS58.set_2) | exact HI0.out)); (case side2 => repeat (first | (with_reducible first | exact HB.out | apply below_alloc | apply pw_below_drewN | apply below_drew1 | refine below_set ?_ (IsS58.ge HI0.out)) | exact HB.out)); rintro e w4 ⟨rfl, hi, hb, hk⟩; refine ⟨_, rfl, ?_⟩; have n0_ := Aside0.mk (KeepBut.trans (by repeat (first | (with_reducible first | exact HK.out | apply KeepBut.set_ | apply keep_drewN | apply keep_drew | apply keep_alloc) | exact HK.out)) hk (.inl rfl)); have n1_ := Aside0.mk (hb); have n2_ := Aside0.mk (hi); clear HK; clear HB; clear HI0; have HK := n0_; have HB := n1_; have HI0 := n2_; clear n0_ n1_ n2_; (try clear hb); (try clear hb2); (try clear hk); (try clear hi)) | ((with_reducible refine gate_callee (f := 43) rfl ?_); refine goesL_ (some 5) rfl rfl Try.func43 (by kernel_rfl) rfl #[.int .i64 t189] rfl (by (try simp only [List.map_toArray, List.map_cons, List.map_nil]); first | done | rfl | (simp only [List.length_drop, List.length_take]; rfl)) ?_; (with_reducible refine (miradorref01_Minus.calls t189 t193 _ A3.out).mono ?_); rintro e w' ⟨rfl, ⟨nd, rfl⟩⟩; refine ⟨_, rfl, ?_⟩))
  go_ret
  exact ⟨by first | rfl | (simp [errW_none, errW_some] <;> rfl) | (simp [*, errW_none, errW_some] <;> rfl), by repeat (first | (with_reducible first | exact HI0.out | apply IsS58.alloc | apply IsS58.drewN | apply IsS58.drew | apply IsS58.set_0 | apply IsS58.set_1 | apply IsS58.set_2) | exact HI0.out), by repeat (first | (with_reducible first | exact HB.out | apply below_alloc | apply pw_below_drewN | apply below_drew1 | refine below_set ?_ (IsS58.ge HI0.out)) | exact HB.out), by repeat (first | (with_reducible first | exact HK.out | apply KeepBut.set_ | apply keep_drewN | apply keep_drew | apply keep_alloc) | exact HK.out)⟩

-- NOT PRINTED: function 9 (miradorref22_Parse)

/-! ### miradorref22_Greets: function 11 -/
def miradorref22_Greets.f (a0 : ByteArray) : Option (Int × Int) := if 0 ≤ (mn (a0.size : Int) 12) then (if (mn (a0.size : Int) 12) ≤ (a0.size : Int) then (if (mn (a0.size : Int) 12) ≤ 12 then (if (a0.extract 0 ((mn (a0.size : Int) 12) : Int).toNat).toList = ((⟨#[82, 70, 66, 32, 48, 48, 51, 46, 48, 48, 56, 10]⟩ : ByteArray).extract 0 ((mn (a0.size : Int) 12) : Int).toNat).toList then (if (mn (a0.size : Int) 12) < 12 then (some (0, 2)) else (some (12, 0))) else (some (0, 220))) else (none)) else (none)) else (none)
set_option maxHeartbeats 8000000 in
set_option maxRecDepth 100000 in
theorem miradorref22_Greets.calls (a0 : ByteArray) (r1 : Int) (r2 : Int) (w : World) (h : miradorref22_Greets.f a0 = some (r1, r2)) :
    Calls Try.prog 11 #[.string a0] w fun e w' => e = .returned (.tuple #[.int .i64 r1, .int .i64 r2]) ∧ Below w.heap.size w w' := by
  have HB := Aside0.mk (Below.refl w.heap.size w)
  have H : (if 0 ≤ (mn (a0.size : Int) 12) then (if (mn (a0.size : Int) 12) ≤ (a0.size : Int) then (if (mn (a0.size : Int) 12) ≤ 12 then (if (a0.extract 0 ((mn (a0.size : Int) 12) : Int).toNat).toList = ((⟨#[82, 70, 66, 32, 48, 48, 51, 46, 48, 48, 56, 10]⟩ : ByteArray).extract 0 ((mn (a0.size : Int) 12) : Int).toNat).toList then (if (mn (a0.size : Int) 12) < 12 then (some (0, 2)) else (some (12, 0))) else (some (0, 220))) else (none)) else (none)) else (none)) = some (r1, r2) := h
  clear h
  obtain ⟨ji2, hji2⟩ : ∃ j_ : Int, (mn (a0.size : Int) 12) = j_ := ⟨_, rfl⟩
  replace H : (if 0 ≤ (ji2) then (if (ji2) ≤ (a0.size : Int) then (if (ji2) ≤ 12 then (if (a0.extract 0 ((ji2) : Int).toNat).toList = ((⟨#[82, 70, 66, 32, 48, 48, 51, 46, 48, 48, 56, 10]⟩ : ByteArray).extract 0 ((ji2) : Int).toNat).toList then (if (ji2) < 12 then (some (0, 2)) else (some (12, 0))) else (some (0, 220))) else (none)) else (none)) else (none)) = some (r1, r2) := by first | (rw [hji2] at H; exact H) | (simp only [hji2] at H ⊢; exact H)
  (try (have hji2h : ji2 ≤ 12 := by (rw [← hji2]; unfold mn; (repeat' split) <;> omega)))
  (try (have hji2g : ji2 ≤ 64 := by omega))
  (try (have hji2l : 0 ≤ ji2 := by (rw [← hji2]; unfold mn; (repeat' split) <;> omega)))
  (try (have hji2m : 0 ≤ ji2 := by omega))
  have hji2_ : (if 12 < (a0.size : Int) then 12 else (a0.size : Int)) = ji2 := hji2
  by_cases c3 : 0 ≤ (ji2)
  · rw [if_pos c3] at H
    have c3b0 := eq_true c3
    have c3b1 : decide (0 ≤ (ji2)) = true := decide_eq_true c3
    clear c3
    by_cases c4 : (ji2) ≤ (a0.size : Int)
    · rw [if_pos c4] at H
      have c4b0 := eq_true c4
      have c4b1 : decide ((ji2) ≤ (a0.size : Int)) = true := decide_eq_true c4
      clear c4
      have c5b0 := eq_true (of_decide_eq_true (by first | (with_reducible assumption) | assumption) : 0 ≤ (ji2))
      by_cases c6 : (ji2) ≤ 12
      · rw [if_pos c6] at H
        have c6b0 := eq_true c6
        have c6b1 : decide ((ji2) ≤ 12) = true := decide_eq_true c6
        clear c6
        by_cases c7 : (a0.extract 0 ((ji2) : Int).toNat).toList = ((⟨#[82, 70, 66, 32, 48, 48, 51, 46, 48, 48, 56, 10]⟩ : ByteArray).extract 0 ((ji2) : Int).toNat).toList
        · rw [if_pos c7] at H
          have c7b0 : ((a0.extract 0 ((ji2) : Int).toNat).toList == ((⟨#[82, 70, 66, 32, 48, 48, 51, 46, 48, 48, 56, 10]⟩ : ByteArray).extract 0 ((ji2) : Int).toNat).toList) = true := beq_iff_eq.mpr c7
          have c7b1 : ((a0.extract 0 ((ji2) : Int).toNat).toList != ((⟨#[82, 70, 66, 32, 48, 48, 51, 46, 48, 48, 56, 10]⟩ : ByteArray).extract 0 ((ji2) : Int).toNat).toList) = false := bne_eq_false_iff_eq.mpr c7
          clear c7
          by_cases c8 : (ji2) < 12
          · rw [if_pos c8] at H
            have c8b0 : decide ((ji2) < 12) = true := decide_eq_true c8
            clear c8
            simp only [Option.some.injEq, Prod.mk.injEq] at H
            obtain ⟨rfl, rfl⟩ := H
            go_enter Try.func11, Try.ntmps11
            go_wp2
            repeat (go_quiet (fail); try go_wp2)
            go_ret2
            exact ⟨by first | rfl | (simp [errW_none, errW_some] <;> rfl) | (simp only [← hji2]; first | rfl | (simp [errW_none, errW_some] <;> rfl)) | (simp [*, errW_none, errW_some] <;> rfl), by repeat (first | (with_reducible first | exact HB.out | apply below_alloc | apply pw_below_drewN | apply below_drew1) | exact HB.out)⟩
          · rw [if_neg c8] at H
            have c8b0 : decide ((ji2) < 12) = false := decide_eq_false c8
            clear c8
            simp only [Option.some.injEq, Prod.mk.injEq] at H
            obtain ⟨rfl, rfl⟩ := H
            go_enter Try.func11, Try.ntmps11
            go_wp2
            repeat (go_quiet (fail); try go_wp2)
            go_ret2
            exact ⟨by first | rfl | (simp [errW_none, errW_some] <;> rfl) | (simp only [← hji2]; first | rfl | (simp [errW_none, errW_some] <;> rfl)) | (simp [*, errW_none, errW_some] <;> rfl), by repeat (first | (with_reducible first | exact HB.out | apply below_alloc | apply pw_below_drewN | apply below_drew1) | exact HB.out)⟩
        · rw [if_neg c7] at H
          have c7b0 : ((a0.extract 0 ((ji2) : Int).toNat).toList == ((⟨#[82, 70, 66, 32, 48, 48, 51, 46, 48, 48, 56, 10]⟩ : ByteArray).extract 0 ((ji2) : Int).toNat).toList) = false := beq_eq_false_iff_ne.mpr c7
          have c7b1 : ((a0.extract 0 ((ji2) : Int).toNat).toList != ((⟨#[82, 70, 66, 32, 48, 48, 51, 46, 48, 48, 56, 10]⟩ : ByteArray).extract 0 ((ji2) : Int).toNat).toList) = true := bne_iff_ne.mpr c7
          simp only [Option.some.injEq, Prod.mk.injEq] at H
          obtain ⟨rfl, rfl⟩ := H
          go_enter Try.func11, Try.ntmps11
          go_wp2
          repeat (go_quiet (fail); try go_wp2)
          go_ret2
          exact ⟨by first | rfl | (simp [errW_none, errW_some] <;> rfl) | (simp only [← hji2]; first | rfl | (simp [errW_none, errW_some] <;> rfl)) | (simp [*, errW_none, errW_some] <;> rfl), by repeat (first | (with_reducible first | exact HB.out | apply below_alloc | apply pw_below_drewN | apply below_drew1) | exact HB.out)⟩
      · rw [if_neg c6] at H
        exact absurd H (by simp)
    · rw [if_neg c4] at H
      exact absurd H (by simp)
  · rw [if_neg c3] at H
    exact absurd H (by simp)

end Go.Proofs.Ytclikkhkhoicfaa.X
