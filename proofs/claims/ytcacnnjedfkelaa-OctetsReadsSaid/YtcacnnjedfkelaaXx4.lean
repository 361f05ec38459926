/- What each Go function that these laws use answers: as a Lean function, with the proof that the machine's call comes to it. Written by a program of this session (xprint.py). -/
import Derived.Test.YtcacnnjedfkelaaXx0
import Derived.Test.YtcacnnjedfkelaaXx1
import Derived.Test.YtcacnnjedfkelaaXx2
import Derived.Test.YtcacnnjedfkelaaXx3
namespace Go.Proofs.Ytcacnnjedfkelaa.X
open Go.RowKit Go.Proofs.YtcacnnjedfkelaaW.PrintWords Go.Proofs.YtcacnnjedfkelaaW.PrintLast Go.Proofs.YtcacnnjedfkelaaW.PrintMore
attribute [local go_sem] max2_int min2_int max_two min_two max_three min_three max_four min_four   -- for this text's walks alone
set_option linter.unusedVariables false
set_option linter.unusedSimpArgs false

/-! ### miradorref01_Int: function 35 -/
def miradorref01_Int.l0 : Nat → ByteArray → Int → Int → Option (Int)
  | 0, _, _, _ => none
  | k + 1, x0, x3, x4 => if x4 < (x0.size : Int) then (if 0 ≤ x4 then (miradorref01_Int.l0 k x0 (wrap64 ((wrap64 (x3 * 256)) + (wrap64 (bt x0 x4)))) (wrap64 (x4 + 1))) else (none)) else (some x3)
def miradorref01_Int.f (k : Nat) (a0 : ByteArray) : Option (Int) := miradorref01_Int.l0 k a0 0 0
theorem miradorref01_Int.mono_l : ∀ k, (∀ y0 y1 y2, LeO (miradorref01_Int.l0 k y0 y1 y2) (miradorref01_Int.l0 (k + 1) y0 y1 y2))
  | 0 => fun _ _ _ r h => by simp [miradorref01_Int.l0] at h
  | k + 1 => by
    have ih0 := miradorref01_Int.mono_l k
    · intro y0 y1 y2
      unfold miradorref01_Int.l0
      repeat' first
      | (with_reducible exact ih0 _ _ _)
      | (with_reducible exact LeO.refl _)
      | (with_reducible exact LeO.none _)
      | (with_reducible refine LeO.ite ?_ ?_)
      | (with_reducible refine LeO.bind ?_ (fun _ => ?_))
      | exact ih0 _ _ _
      | exact LeO.none _
      | refine LeO.ite ?_ ?_
      | refine LeO.bind ?_ (fun _ => ?_)
theorem miradorref01_Int.mono : ∀ a0 k, LeO (miradorref01_Int.f k a0) (miradorref01_Int.f (k + 1) a0) := by
  intro a0 k
  have ih0 := miradorref01_Int.mono_l k
  unfold miradorref01_Int.f
  repeat' first
      | (with_reducible exact ih0 _ _ _)
      | (with_reducible exact LeO.refl _)
      | (with_reducible exact LeO.none _)
      | (with_reducible refine LeO.ite ?_ ?_)
      | (with_reducible refine LeO.bind ?_ (fun _ => ?_))
      | exact ih0 _ _ _
      | exact LeO.none _
      | refine LeO.ite ?_ ?_
      | refine LeO.bind ?_ (fun _ => ?_)
set_option maxHeartbeats 8000000 in
set_option maxRecDepth 100000 in
theorem miradorref01_Int.calls (k : Nat) (a0 : ByteArray) (r : Int) (w : World) (h : miradorref01_Int.f k a0 = some r) :
    Calls Try.prog 35 #[.string a0] w fun e w' => e = .returned (.int .i64 r) ∧ Drawn0 w w' := by
  have H : (miradorref01_Int.l0 k a0 0 0) = some r := h
  clear h
  have H' := Aside0.mk H
  clear H
  go_enter Try.func35, Try.ntmps35
  go_wp2
  go_loopg [3, 4] k (fun kq v3 v4 w' => ∃ (x3_1 : Int) (x4_1 : Int), v3 = .int .i64 x3_1 ∧ v4 = .int .i64 x4_1 ∧ Aside0 (miradorref01_Int.l0 kq a0 x3_1 x4_1 = some r) ∧ Aside0 (kq ≤ k) ∧ Drawn0 w w')
  case atStart => exact ⟨(0), (0), (by first | rfl | (simp; done) | (simp [*]; done)), (by first | rfl | (simp; done) | (simp [*]; done)), H', ⟨Nat.le_refl _⟩, by repeat (first | exact Drawn0.refl _ | apply Drawn0.step)⟩
  case round =>
    clear H'
    obtain ⟨x3_1, x4_1, rfl, rfl, HA, HK1, ⟨m1, rfl⟩⟩ := hrel
    cases gk with
    | zero => exact absurd HA.out (by simp [miradorref01_Int.l0])
    | succ k1 =>
      have H := HA.out
      clear HA
      simp only [miradorref01_Int.l0] at H
      by_cases c2 : x4_1 < (a0.size : Int)
      · rw [if_pos c2] at H
        have c2b0 : decide (x4_1 < (a0.size : Int)) = true := decide_eq_true c2
        clear c2
        by_cases c3 : 0 ≤ x4_1
        · rw [if_pos c3] at H
          have c3b0 : decide (0 ≤ x4_1) = true := decide_eq_true c3
          clear c3
          have H' := Aside0.mk H
          clear H
          have p4 : 0 ≤ (x4_1 : Int) := of_decide_eq_true (by first | (with_reducible assumption) | assumption)
          have q4 : x4_1 < (a0.size : Int) := of_decide_eq_true (by first | (with_reducible assumption) | assumption)
          have hx4 := bt_at a0 x4_1
          replace p4 := eq_true p4
          replace q4 := eq_true q4
          go_wp2
          go_roundg k1
          case measure => have := HK1.out; omega
          case rel => exact ⟨(wrap64 ((wrap64 (x3_1 * 256)) + (wrap64 (bt a0 x4_1)))), (wrap64 (x4_1 + 1)), (by first | rfl | (simp; done) | (simp [*]; done)), (by first | rfl | (simp; done) | (simp [*]; done)), H', ⟨by have := HK1.out; omega⟩, by repeat (first | exact Drawn0.refl _ | apply Drawn0.step)⟩
        · rw [if_neg c3] at H
          exact absurd H (by simp)
      · rw [if_neg c2] at H
        have c2b0 : decide (x4_1 < (a0.size : Int)) = false := decide_eq_false c2
        clear c2
        obtain rfl := Option.some.inj H
        go_wp2
        go_ret
        exact ⟨by first | rfl | (simp; done) | (simp [*]; done), by repeat (first | exact Drawn0.refl _ | apply Drawn0.step)⟩

/-! ### miradorref01_Cursor_Int: function 22 -/
def miradorref01_Cursor_Int.j0 : Nat → Int → Bool → ByteArray → Int → Int → Option (Int × ByteArray × Int × Int)
  | 0, _, _, _, _, _ => none
  | k + 1, x1, x14, x1000, x1001, x1002 => if x14 = true then ((miradorref01_Cursor_Bytes.f x1000 x1001 1 x1).bind fun bt181 => ((miradorref01_Int.f k bt181.1).bind fun t185 => (some (t185, bt181.2.1, bt181.2.2.1, bt181.2.2.2)))) else ((miradorref01_Cursor_Bytes.f x1000 x1001 x1002 x1).bind fun bt186 => ((miradorref01_Int.f k bt186.1).bind fun t190 => (some (t190, bt186.2.1, bt186.2.2.1, bt186.2.2.2))))
def miradorref01_Cursor_Int.f (k : Nat) (s0_0 : ByteArray) (s0_1 : Int) (s0_2 : Int) (a1 : Int) : Option (Int × ByteArray × Int × Int) := if s0_2 = 0 then ((miradorref01_Size.f a1).bind fun t180 => (miradorref01_Cursor_Int.j0 k a1 (!t180) s0_0 s0_1 s0_2)) else (miradorref01_Cursor_Int.j0 k a1 false s0_0 s0_1 s0_2)
theorem miradorref01_Cursor_Int.mono_l : ∀ k, (∀ y0 y1 y2 y3 y4, LeO (miradorref01_Cursor_Int.j0 k y0 y1 y2 y3 y4) (miradorref01_Cursor_Int.j0 (k + 1) y0 y1 y2 y3 y4))
  | 0 => fun _ _ _ _ _ r h => by simp [miradorref01_Cursor_Int.j0] at h
  | k + 1 => by
    have ih0 := miradorref01_Cursor_Int.mono_l k
    · intro y0 y1 y2 y3 y4
      unfold miradorref01_Cursor_Int.j0
      repeat' first
      | (with_reducible exact ih0 _ _ _ _ _)
      | (with_reducible exact miradorref01_Int.mono _ _)
      | (with_reducible exact LeO.refl _)
      | (with_reducible exact LeO.none _)
      | (with_reducible refine LeO.ite ?_ ?_)
      | (with_reducible refine LeO.bind ?_ (fun _ => ?_))
      | exact ih0 _ _ _ _ _
      | exact miradorref01_Int.mono _ _
      | exact LeO.none _
      | refine LeO.ite ?_ ?_
      | refine LeO.bind ?_ (fun _ => ?_)
theorem miradorref01_Cursor_Int.mono : ∀ a0 a1 a2 a3 k, LeO (miradorref01_Cursor_Int.f k a0 a1 a2 a3) (miradorref01_Cursor_Int.f (k + 1) a0 a1 a2 a3) := by
  intro a0 a1 a2 a3 k
  have ih0 := miradorref01_Cursor_Int.mono_l k
  unfold miradorref01_Cursor_Int.f
  repeat' first
      | (with_reducible exact ih0 _ _ _ _ _)
      | (with_reducible exact miradorref01_Int.mono _ _)
      | (with_reducible exact LeO.refl _)
      | (with_reducible exact LeO.none _)
      | (with_reducible refine LeO.ite ?_ ?_)
      | (with_reducible refine LeO.bind ?_ (fun _ => ?_))
      | exact ih0 _ _ _ _ _
      | exact miradorref01_Int.mono _ _
      | exact LeO.none _
      | refine LeO.ite ?_ ?_
      | refine LeO.bind ?_ (fun _ => ?_)
set_option maxHeartbeats 8000000 in
set_option maxRecDepth 100000 in
theorem miradorref01_Cursor_Int.calls (k : Nat) (g : Nat) (s0_0 : ByteArray) (s0_1 : Int) (s0_2 : Int) (a1 : Int) (r1 : Int) (r2 : ByteArray) (r3 : Int) (r4 : Int) (w0 w : World) (hI : IsS39 w0 w g s0_0 s0_1 s0_2) (hB : Below w0.heap.size w0 w) (h : miradorref01_Cursor_Int.f k s0_0 s0_1 s0_2 a1 = some (r1, r2, r3, r4)) :
    Calls Try.prog 22 #[.pointer (some ⟨g, 0, none⟩), .int .i64 a1] w fun e w' => e = .returned (.int .i64 r1) ∧ IsS39 w0 w' g r2 r3 r4 ∧ Below w0.heap.size w0 w' ∧ KeepBut w w' g none := by
  have HI0 := Aside0.mk hI
  have HK := Aside0.mk (KeepBut.refl w g none)
  have HL := Aside0.mk hB.size
  clear hI
  have HW0 := Aside0.mk hB.size
  have HB := Aside0.mk hB
  clear hB
  have H : (if s0_2 = 0 then ((miradorref01_Size.f a1).bind fun t180 => (miradorref01_Cursor_Int.j0 k a1 (!t180) s0_0 s0_1 s0_2)) else (miradorref01_Cursor_Int.j0 k a1 false s0_0 s0_1 s0_2)) = some (r1, r2, r3, r4) := h
  clear h
  have HC3 := Aside0.mk H
  clear H
  go_enter Try.func22, Try.ntmps22
  go_upto_region 1 with (fail)
  go_cut [14] (fun v14 wc => ∃ (kq : Nat) (x14_2 : Bool), v14 = .bool x14_2 ∧ Aside0 (miradorref01_Cursor_Int.j0 kq a1 x14_2 s0_0 s0_1 s0_2 = some (r1, r2, r3, r4)) ∧ Aside0 (kq ≤ k) ∧ Aside0 (IsS39 w0 wc g s0_0 s0_1 s0_2) ∧ Aside0 (KeepBut w wc g none) ∧ Aside0 (Below w0.heap.size w0 wc))
  case first =>
    have H := HC3.out
    clear HC3
    by_cases c4 : s0_2 = 0
    · rw [if_pos c4] at H
      have c4b0 : (s0_2 == 0) = true := beq_iff_eq.mpr c4
      have c4b1 : (s0_2 != 0) = false := bne_eq_false_iff_eq.mpr c4
      clear c4
      (first | rw [c4b0] | (simp only [i64_w, i32_w]; rw [c4b0]) | skip)
      replace H := Option.bind_eq_some_iff.mp H
      obtain ⟨t180, A50, H⟩ := H
      replace H : (miradorref01_Cursor_Int.j0 k a1 (!t180) s0_0 s0_1 s0_2) = some (r1, r2, r3, r4) := H
      have A5 := Aside0.mk A50
      clear A50
      have H' := Aside0.mk H
      clear H
      obtain ⟨HGz6, hgz6⟩ := HI0.out
      have hcz6_0 := cellS39_0 HGz6
      have hcz6_1 := cellS39_1 HGz6
      have hcz6_2 := cellS39_2 HGz6
      have hfz6_0 := blk_frozen HGz6 0
      have hfz6_1 := blk_frozen HGz6 1
      have hfz6_2 := blk_frozen HGz6 2
      clear HGz6 hgz6
      go_wp2_with (first | (go_at_call 30; (with_reducible refine (miradorref01_Size.calls a1 t180 _ A5.out).mono ?_); rintro e w' ⟨rfl, ⟨nd, rfl⟩⟩))
      go_meet
      case rel => exact ⟨_, (!t180), (by first | rfl | (simp; done) | (simp [*]; done)), H', ⟨by first | omega | exact Nat.le_refl _⟩, ⟨by repeat (first | (with_reducible first | exact HI0.out | apply IsS39.alloc | apply IsS39.drewN | apply IsS39.drew | apply IsS39.set_0 | apply IsS39.set_1 | apply IsS39.set_2) | exact HI0.out)⟩, ⟨by repeat (first | (with_reducible first | exact HK.out | apply KeepBut.set_ | apply keep_drewN | apply keep_drew | apply keep_alloc) | exact HK.out)⟩, ⟨by repeat (first | (with_reducible first | exact HB.out | apply below_alloc | apply pw_below_drewN | apply below_drew1 | refine below_set ?_ (IsS39.ge HI0.out)) | exact HB.out)⟩⟩
    · rw [if_neg c4] at H
      have c4b0 : (s0_2 == 0) = false := beq_eq_false_iff_ne.mpr c4
      have c4b1 : (s0_2 != 0) = true := bne_iff_ne.mpr c4
      (first | rw [c4b0] | (simp only [i64_w, i32_w]; rw [c4b0]) | skip)
      have H' := Aside0.mk H
      clear H
      obtain ⟨HGz7, hgz7⟩ := HI0.out
      have hcz7_0 := cellS39_0 HGz7
      have hcz7_1 := cellS39_1 HGz7
      have hcz7_2 := cellS39_2 HGz7
      have hfz7_0 := blk_frozen HGz7 0
      have hfz7_1 := blk_frozen HGz7 1
      have hfz7_2 := blk_frozen HGz7 2
      clear HGz7 hgz7
      go_wp2
      go_meet
      case rel => exact ⟨_, (false), (by first | rfl | (simp; done) | (simp [*]; done)), H', ⟨by first | omega | exact Nat.le_refl _⟩, ⟨by repeat (first | (with_reducible first | exact HI0.out | apply IsS39.alloc | apply IsS39.drewN | apply IsS39.drew | apply IsS39.set_0 | apply IsS39.set_1 | apply IsS39.set_2) | exact HI0.out)⟩, ⟨by repeat (first | (with_reducible first | exact HK.out | apply KeepBut.set_ | apply keep_drewN | apply keep_drew | apply keep_alloc) | exact HK.out)⟩, ⟨by repeat (first | (with_reducible first | exact HB.out | apply below_alloc | apply pw_below_drewN | apply below_drew1 | refine below_set ?_ (IsS39.ge HI0.out)) | exact HB.out)⟩⟩
  case rest =>
    clear HC3
    try clear c2
    try clear p2
    try clear c4
    try clear c4b0
    try clear c4b1
    try clear hcz6_0
    try clear hcz6_1
    try clear hcz6_2
    try clear hcz7_0
    try clear hcz7_1
    try clear hcz7_2
    try clear hfz6_0
    try clear hfz6_1
    try clear hfz6_2
    try clear hfz7_0
    try clear hfz7_1
    try clear hfz7_2
    obtain ⟨kq, x14_2, rfl, HA, HJ2, HI0, HK, HB⟩ := hcut
    cases kq with
    | zero => exact absurd HA.out (by simp [miradorref01_Cursor_Int.j0])
    | succ kj2 =>
      have H := HA.out
      clear HA
      simp only [miradorref01_Cursor_Int.j0] at H
      by_cases c8 : x14_2 = true
      · subst c8
        have H1 : ((miradorref01_Cursor_Bytes.f s0_0 s0_1 1 a1).bind fun bt181 => ((miradorref01_Int.f kj2 bt181.1).bind fun t185 => (some (t185, bt181.2.1, bt181.2.2.1, bt181.2.2.2)))) = some (r1, r2, r3, r4) := by rw [if_pos rfl] at H; exact H
        clear H
        have H := H1
        clear H1
        replace H := Option.bind_eq_some_iff.mp H
        obtain ⟨⟨t181, t182, t183, t184⟩, A90, H⟩ := H
        replace H : ((miradorref01_Int.f kj2 t181).bind fun t185 => (some (t185, t182, t183, t184))) = some (r1, r2, r3, r4) := H
        have A9 := Aside0.mk A90
        clear A90
        replace H := Option.bind_eq_some_iff.mp H
        obtain ⟨t185, A100, H⟩ := H
        replace H : (some (t185, t182, t183, t184)) = some (r1, r2, r3, r4) := H
        have A10 := Aside0.mk A100
        clear A100
        simp only [Option.some.injEq, Prod.mk.injEq] at H
        obtain ⟨rfl, rfl, rfl, rfl⟩ := H
        obtain ⟨HGz11, hgz11⟩ := HI0.out
        have hcz11_0 := cellS39_0 HGz11
        have hcz11_1 := cellS39_1 HGz11
        have hcz11_2 := cellS39_2 HGz11
        have hfz11_0 := blk_frozen HGz11 0
        have hfz11_1 := blk_frozen HGz11 1
        have hfz11_2 := blk_frozen HGz11 2
        clear HGz11 hgz11
        go_wp2_with (first | ((with_reducible refine gate_callee (f := 26) rfl ?_); refine goesL_ (some 20) rfl rfl Try.func26 (by kernel_rfl) rfl #[.pointer (some ⟨g, 0, none⟩), .int .i64 a1] rfl (by (try simp only [List.map_toArray, List.map_cons, List.map_nil]); first | done | rfl | (simp only [List.length_drop, List.length_take]; rfl)) ?_; (with_reducible refine (miradorref01_Cursor_Bytes.calls g s0_0 s0_1 1 a1 t181 t182 t183 t184 w0 _ ?side1 ?side2 A9.out).mono ?_); (case side1 => repeat (first | (with_reducible first | exact HI0.out | apply IsS39.alloc | apply IsS39.drewN | apply IsS39.drew | apply IsS39.set_0 | apply IsS39.set_1 | apply IsS39.set_2) | exact HI0.out)); (case side2 => repeat (first | (with_reducible first | exact HB.out | apply below_alloc | apply pw_below_drewN | apply below_drew1 | refine below_set ?_ (IsS39.ge HI0.out)) | exact HB.out)); rintro e w12 ⟨rfl, hi, hb, hk⟩; refine ⟨_, rfl, ?_⟩; have n0_ := Aside0.mk (KeepBut.trans (by repeat (first | (with_reducible first | exact HK.out | apply KeepBut.set_ | apply keep_drewN | apply keep_drew | apply keep_alloc) | exact HK.out)) hk (.inl rfl)); have n1_ := Aside0.mk (hb); have n2_ := Aside0.mk (hi); clear HK; clear HB; clear HI0; have HK := n0_; have HB := n1_; have HI0 := n2_; clear n0_ n1_ n2_; (try clear hb); (try clear hb2); (try clear hk); (try clear hi)) | ((with_reducible refine gate_callee (f := 35) rfl ?_); refine goesL_ (some 21) rfl rfl Try.func35 (by kernel_rfl) rfl #[.string t181] rfl (by (try simp only [List.map_toArray, List.map_cons, List.map_nil]); first | done | rfl | (simp only [List.length_drop, List.length_take]; rfl)) ?_; (with_reducible refine (miradorref01_Int.calls kj2 t181 t185 _ A10.out).mono ?_); rintro e w' ⟨rfl, ⟨nd, rfl⟩⟩; refine ⟨_, rfl, ?_⟩))
        go_ret
        exact ⟨by first | rfl | (simp [errW_none, errW_some] <;> rfl) | (simp [*, errW_none, errW_some] <;> rfl), by repeat (first | (with_reducible first | exact HI0.out | apply IsS39.alloc | apply IsS39.drewN | apply IsS39.drew | apply IsS39.set_0 | apply IsS39.set_1 | apply IsS39.set_2) | exact HI0.out), by repeat (first | (with_reducible first | exact HB.out | apply below_alloc | apply pw_below_drewN | apply below_drew1 | refine below_set ?_ (IsS39.ge HI0.out)) | exact HB.out), by repeat (first | (with_reducible first | exact HK.out | apply KeepBut.set_ | apply keep_drewN | apply keep_drew | apply keep_alloc) | exact HK.out)⟩
      · replace c8 := Bool.eq_false_iff.mpr c8
        subst c8
        have H1 : ((miradorref01_Cursor_Bytes.f s0_0 s0_1 s0_2 a1).bind fun bt186 => ((miradorref01_Int.f kj2 bt186.1).bind fun t190 => (some (t190, bt186.2.1, bt186.2.2.1, bt186.2.2.2)))) = some (r1, r2, r3, r4) := by rw [if_neg (show ¬ (false = true) by decide)] at H; exact H
        clear H
        have H := H1
        clear H1
        replace H := Option.bind_eq_some_iff.mp H
        obtain ⟨⟨t186, t187, t188, t189⟩, A130, H⟩ := H
        replace H : ((miradorref01_Int.f kj2 t186).bind fun t190 => (some (t190, t187, t188, t189))) = some (r1, r2, r3, r4) := H
        have A13 := Aside0.mk A130
        clear A130
        replace H := Option.bind_eq_some_iff.mp H
        obtain ⟨t190, A140, H⟩ := H
        replace H : (some (t190, t187, t188, t189)) = some (r1, r2, r3, r4) := H
        have A14 := Aside0.mk A140
        clear A140
        simp only [Option.some.injEq, Prod.mk.injEq] at H
        obtain ⟨rfl, rfl, rfl, rfl⟩ := H
        go_wp2_with (first | ((with_reducible refine gate_callee (f := 26) rfl ?_); refine goesL_ (some 20) rfl rfl Try.func26 (by kernel_rfl) rfl #[.pointer (some ⟨g, 0, none⟩), .int .i64 a1] rfl (by (try simp only [List.map_toArray, List.map_cons, List.map_nil]); first | done | rfl | (simp only [List.length_drop, List.length_take]; rfl)) ?_; (with_reducible refine (miradorref01_Cursor_Bytes.calls g s0_0 s0_1 s0_2 a1 t186 t187 t188 t189 w0 _ ?side1 ?side2 A13.out).mono ?_); (case side1 => repeat (first | (with_reducible first | exact HI0.out | apply IsS39.alloc | apply IsS39.drewN | apply IsS39.drew | apply IsS39.set_0 | apply IsS39.set_1 | apply IsS39.set_2) | exact HI0.out)); (case side2 => repeat (first | (with_reducible first | exact HB.out | apply below_alloc | apply pw_below_drewN | apply below_drew1 | refine below_set ?_ (IsS39.ge HI0.out)) | exact HB.out)); rintro e w15 ⟨rfl, hi, hb, hk⟩; refine ⟨_, rfl, ?_⟩; have n0_ := Aside0.mk (KeepBut.trans (by repeat (first | (with_reducible first | exact HK.out | apply KeepBut.set_ | apply keep_drewN | apply keep_drew | apply keep_alloc) | exact HK.out)) hk (.inl rfl)); have n1_ := Aside0.mk (hb); have n2_ := Aside0.mk (hi); clear HK; clear HB; clear HI0; have HK := n0_; have HB := n1_; have HI0 := n2_; clear n0_ n1_ n2_; (try clear hb); (try clear hb2); (try clear hk); (try clear hi)) | ((with_reducible refine gate_callee (f := 35) rfl ?_); refine goesL_ (some 21) rfl rfl Try.func35 (by kernel_rfl) rfl #[.string t186] rfl (by (try simp only [List.map_toArray, List.map_cons, List.map_nil]); first | done | rfl | (simp only [List.length_drop, List.length_take]; rfl)) ?_; (with_reducible refine (miradorref01_Int.calls kj2 t186 t190 _ A14.out).mono ?_); rintro e w' ⟨rfl, ⟨nd, rfl⟩⟩; refine ⟨_, rfl, ?_⟩))
        go_ret
        exact ⟨by first | rfl | (simp [errW_none, errW_some] <;> rfl) | (simp [*, errW_none, errW_some] <;> rfl), by repeat (first | (with_reducible first | exact HI0.out | apply IsS39.alloc | apply IsS39.drewN | apply IsS39.drew | apply IsS39.set_0 | apply IsS39.set_1 | apply IsS39.set_2) | exact HI0.out), by repeat (first | (with_reducible first | exact HB.out | apply below_alloc | apply pw_below_drewN | apply below_drew1 | refine below_set ?_ (IsS39.ge HI0.out)) | exact HB.out), by repeat (first | (with_reducible first | exact HK.out | apply KeepBut.set_ | apply keep_drewN | apply keep_drew | apply keep_alloc) | exact HK.out)⟩

/-! ### octets_Cursor_Little: function 23 -/
def octets_turnI (s : ByteArray) : ByteArray := s
theorem octets_turnI_ok (s : ByteArray) (w : World) (hs : s.size ≤ 4) : Hid ((octets_turnI s).size ≤ 4 ∧ Calls Try.prog 36 #[.string s] w fun e w' => e = .returned (.string (octets_turnI s)) ∧ Below w.heap.size w w') := by
  refine Lib.hid ⟨hs, ?_⟩
  clear hs
  go_enter Try.func36, Try.ntmps36
  go_wp2
  go_ret
  exact ⟨rfl, Below.refl _ _⟩
/-- What a number of bytes is, the least byte first, as the loop reckons it. -/
def octets_numberI.f (s0_0 : ByteArray) (s0_1 s0_2 : Int) (a1 : Int) : Option (Int × ByteArray × Int × Int) :=
  (octets_wide.f a1).bind fun wd => (if wd = true then some (s0_0, s0_1, s0_2) else octets_Cursor_fail.f s0_0 s0_1 s0_2 1).bind fun st =>
  (octets_Cursor_Bytes.f st.1 st.2.1 st.2.2 a1).bind fun r => if r.1.size ≤ 4 then some (octets_leK (bytesOf (octets_turnI r.1)) (octets_turnI r.1).size, r.2.1, r.2.2.1, r.2.2.2) else none
section
open Go.Sort Go.Lib
set_option maxHeartbeats 1600000 in
set_option maxRecDepth 100000 in
theorem octets_numberI.calls (hT : ∀ (s : ByteArray) (w : World), s.size ≤ 4 → Hid ((octets_turnI s).size ≤ 4 ∧ Calls Try.prog 36 #[.string s] w fun e w' => e = .returned (.string (octets_turnI s)) ∧ Below w.heap.size w w'))
    (g : Nat) (s0_0 : ByteArray) (s0_1 s0_2 a1 : Int) (r1 : Int) (r2 : ByteArray) (r3 r4 : Int) (w0 w : World) (hI : IsS46 w0 w g s0_0 s0_1 s0_2) (hB : Below w0.heap.size w0 w)
    (h : octets_numberI.f s0_0 s0_1 s0_2 a1 = some (r1, r2, r3, r4)) :
    Calls Try.prog 34 #[.pointer (some ⟨g, 0, none⟩), .int .i64 a1, .func (.func 36) #[] #[]] w fun e w' => e = .returned (.int .i64 r1) ∧ IsS46 w0 w' g r2 r3 r4 ∧ Below w0.heap.size w0 w' ∧ KeepBut w w' g none := by
  have HI := Lib.hid hI
  have HB := Lib.hid hB
  clear hI hB
  unfold octets_numberI.f at h
  obtain ⟨wd, hw, h⟩ := Option.bind_eq_some_iff.mp h
  obtain ⟨⟨p0, p1, p2⟩, hf, h⟩ := Option.bind_eq_some_iff.mp h
  obtain ⟨⟨b1, b2, b3, b4⟩, hb, h⟩ := Option.bind_eq_some_iff.mp h
  dsimp only at hb h
  split at h
  case isFalse => exact absurd h (by simp)
  case isTrue hr =>
  simp only [Option.some.injEq, Prod.mk.injEq] at h
  obtain ⟨h1, rfl, rfl, rfl⟩ := h
  have HW := Lib.hid hw
  have HH := Lib.hid hb
  have H1 := Lib.hid h1
  clear hw hb h1
  have HT := hT b1
  clear hT
  cases wd with
  | true =>
    rw [if_pos rfl] at hf
    simp only [Option.some.injEq, Prod.mk.injEq] at hf
    obtain ⟨rfl, rfl, rfl⟩ := hf
    go_enter Try.func34, Try.ntmps34
    go_wp2_with (first | (go_at_call 32; refine (octets_wide.calls a1 true _ HW.out).mono ?_; rintro e w' ⟨rfl, ⟨nd, rfl⟩⟩) | (go_at_call 16; refine (octets_Cursor_Bytes.calls g s0_0 s0_1 s0_2 a1 b1 b2 b3 b4 w0 _ (IsS46.drewN HI.out nd) (pw_below_drewN HB.out nd) HH.out).mono ?_; rintro e w1 ⟨rfl, hi, hb, hk⟩; have HI1 := Lib.hid hi; have HB1 := Lib.hid hb; have HK1 := Lib.hid (KeepBut.trans (keep_drewN (KeepBut.refl w g none) nd) hk (.inl rfl)); clear hi hb hk) | (go_at_call 36; obtain ⟨ht1, ht2⟩ := (HT w1 hr).out; clear HT; refine ht2.mono ?_; clear ht2; rintro e w2 ⟨rfl, hb⟩; have HB2 := Lib.hid hb; clear hb; have hcv := fun wx => Go.Lib.run_convert_string_bytes (P := Try.prog) wx 9 43 5 (octets_turnI b1) Try.underlying9 Try.underlying43 Try.underlying5))
    have hl : (bytesOf (octets_turnI b1)).length = (octets_turnI b1).size := bytesOf_length _
    have HL := Lib.hid hl
    have HC : ∀ k, k < (octets_turnI b1).size → Hid ((Lib.bytesWorld w2 5 (octets_turnI b1)).cell? ⟨w2.heap.size, k, none⟩ = some (.int .u8 ((bytesOf (octets_turnI b1)).getD k 0)) ∧ 0 ≤ (bytesOf (octets_turnI b1)).getD k 0 ∧ (bytesOf (octets_turnI b1)).getD k 0 ≤ 255) := by
      intro k hk
      refine Lib.hid ⟨?_, ?_, ?_⟩
      · rw [Lib.bytesWorld_cell w2 5 (octets_turnI b1) k hk]
        simp [bytesOf, List.getD, List.getElem?_eq_getElem, hk]
      · simp [bytesOf, List.getD, List.getElem?_eq_getElem, hk]
      · have : ((octets_turnI b1).data.toList.getD k 0).toNat < 256 := UInt8.toNat_lt _
        simp [bytesOf, List.getD, List.getElem?_eq_getElem, hk] at this ⊢
        omega
    clear hl hcv
    generalize octets_turnI b1 = V at *
    go_loop [7, 22] (fun n i => ∃ k : Nat, k ≤ V.size ∧ i = .int .i64 k ∧ n = .int .i64 (octets_leK (bytesOf V) k)) (fun _ i => V.size - (RowKit.intOf i).toNat)
    case atStart => exact ⟨0, Nat.zero_le _, rfl, rfl⟩
    case round =>
      obtain ⟨k, hk, rfl, rfl⟩ := hrel
      by_cases hlt : k < V.size
      · obtain ⟨hc, hb0, hb1⟩ := (HC k hlt).out
        clear HC
        have h4 : k ≤ 3 := by omega
        have hn : octets_leK (bytesOf V) (k + 1) = Go.bits .or .i64 (octets_leK (bytesOf V) k) (wrap64 ((bytesOf V).getD k 0 * 2 ^ (8 * k))) := rfl
        generalize (bytesOf V).getD k 0 = b at *
        have HN := Lib.hid hn
        clear hn
        go_wp2
        go_round
        case rel => exact ⟨k + 1, by omega, by go_num, by rw [HN.out]⟩
        case measure => simp [RowKit.intOf]; omega
      · obtain rfl : k = V.size := by omega
        clear HC
        go_wp2
        go_ret
        have hB2 : Below w1.heap.size w1 (Lib.bytesWorld w2 5 V) := HB2.out.trans ((bytesWorld_below w2 5 V).mono HB2.out.size)
        exact ⟨by rw [← H1.out]; rfl, IsS46.below HI1.out hB2, HB1.out.trans (hB2.mono HB1.out.size), HK1.out.trans (KeepBut.of_below hB2 g none) (.inl rfl)⟩
  | false =>
    rw [if_neg (by decide)] at hf
    have HF := Lib.hid hf
    clear hf
    go_enter Try.func34, Try.ntmps34
    go_wp2_with (first | (go_at_call 32; refine (octets_wide.calls a1 false _ HW.out).mono ?_; rintro e w' ⟨rfl, ⟨nd, rfl⟩⟩) | (go_at_call 33; refine (octets_Cursor_fail.calls g s0_0 s0_1 s0_2 1 p0 p1 p2 w0 _ (IsS46.drewN HI.out nd) (pw_below_drewN HB.out nd) HF.out).mono ?_; rintro e wf ⟨rfl, hi, hb, hk⟩; have HIf := Lib.hid hi; have HBf := Lib.hid hb; have HKf := Lib.hid (KeepBut.trans (keep_drewN (KeepBut.refl w g none) nd) hk (.inl rfl)); clear hi hb hk) | (go_at_call 16; refine (octets_Cursor_Bytes.calls g p0 p1 p2 a1 b1 b2 b3 b4 w0 _ HIf.out HBf.out HH.out).mono ?_; rintro e w1 ⟨rfl, hi, hb, hk⟩; have HI1 := Lib.hid hi; have HB1 := Lib.hid hb; have HK1 := Lib.hid (HKf.out.trans hk (.inl rfl)); clear hi hb hk) | (go_at_call 36; obtain ⟨ht1, ht2⟩ := (HT w1 hr).out; clear HT; refine ht2.mono ?_; clear ht2; rintro e w2 ⟨rfl, hb⟩; have HB2 := Lib.hid hb; clear hb; have hcv := fun wx => Go.Lib.run_convert_string_bytes (P := Try.prog) wx 9 43 5 (octets_turnI b1) Try.underlying9 Try.underlying43 Try.underlying5))
    have hl : (bytesOf (octets_turnI b1)).length = (octets_turnI b1).size := bytesOf_length _
    have HL := Lib.hid hl
    have HC : ∀ k, k < (octets_turnI b1).size → Hid ((Lib.bytesWorld w2 5 (octets_turnI b1)).cell? ⟨w2.heap.size, k, none⟩ = some (.int .u8 ((bytesOf (octets_turnI b1)).getD k 0)) ∧ 0 ≤ (bytesOf (octets_turnI b1)).getD k 0 ∧ (bytesOf (octets_turnI b1)).getD k 0 ≤ 255) := by
      intro k hk
      refine Lib.hid ⟨?_, ?_, ?_⟩
      · rw [Lib.bytesWorld_cell w2 5 (octets_turnI b1) k hk]
        simp [bytesOf, List.getD, List.getElem?_eq_getElem, hk]
      · simp [bytesOf, List.getD, List.getElem?_eq_getElem, hk]
      · have : ((octets_turnI b1).data.toList.getD k 0).toNat < 256 := UInt8.toNat_lt _
        simp [bytesOf, List.getD, List.getElem?_eq_getElem, hk] at this ⊢
        omega
    clear hl hcv
    generalize octets_turnI b1 = V at *
    go_loop [7, 22] (fun n i => ∃ k : Nat, k ≤ V.size ∧ i = .int .i64 k ∧ n = .int .i64 (octets_leK (bytesOf V) k)) (fun _ i => V.size - (RowKit.intOf i).toNat)
    case atStart => exact ⟨0, Nat.zero_le _, rfl, rfl⟩
    case round =>
      obtain ⟨k, hk, rfl, rfl⟩ := hrel
      by_cases hlt : k < V.size
      · obtain ⟨hc, hb0, hb1⟩ := (HC k hlt).out
        clear HC
        have h4 : k ≤ 3 := by omega
        have hn : octets_leK (bytesOf V) (k + 1) = Go.bits .or .i64 (octets_leK (bytesOf V) k) (wrap64 ((bytesOf V).getD k 0 * 2 ^ (8 * k))) := rfl
        generalize (bytesOf V).getD k 0 = b at *
        have HN := Lib.hid hn
        clear hn
        go_wp2
        go_round
        case rel => exact ⟨k + 1, by omega, by go_num, by rw [HN.out]⟩
        case measure => simp [RowKit.intOf]; omega
      · obtain rfl : k = V.size := by omega
        clear HC
        go_wp2
        go_ret
        have hB2 : Below w1.heap.size w1 (Lib.bytesWorld w2 5 V) := HB2.out.trans ((bytesWorld_below w2 5 V).mono HB2.out.size)
        exact ⟨by rw [← H1.out]; rfl, IsS46.below HI1.out hB2, HB1.out.trans (hB2.mono HB1.out.size), HK1.out.trans (KeepBut.of_below hB2 g none) (.inl rfl)⟩
end

def octets_Cursor_Little.f (s0_0 : ByteArray) (s0_1 : Int) (s0_2 : Int) (a1 : Int) : Option (Int × ByteArray × Int × Int) := octets_numberI.f s0_0 s0_1 s0_2 a1
theorem octets_Cursor_Little.calls (g : Nat) (s0_0 : ByteArray) (s0_1 : Int) (s0_2 : Int) (a1 : Int) (r1 : Int) (r2 : ByteArray) (r3 : Int) (r4 : Int) (w0 w : World) (hI : IsS46 w0 w g s0_0 s0_1 s0_2) (hB : Below w0.heap.size w0 w) (h : octets_Cursor_Little.f s0_0 s0_1 s0_2 a1 = some (r1, r2, r3, r4)) :
    Calls Try.prog 23 #[.pointer (some ⟨g, 0, none⟩), .int .i64 a1] w fun e w' => e = .returned (.int .i64 r1) ∧ IsS46 w0 w' g r2 r3 r4 ∧ Below w0.heap.size w0 w' ∧ KeepBut w w' g none := by
  have HX := Lib.hid (octets_numberI.calls octets_turnI_ok g s0_0 s0_1 s0_2 a1 r1 r2 r3 r4 w0 w hI hB h)
  clear hI hB h
  go_enter Try.func23, Try.ntmps23
  go_wp2_with (go_at_call 34; refine HX.out.mono ?_; rintro e w' ⟨rfl, hi, hb, hk⟩; have HP := Lib.hid (And.intro hi (And.intro hb hk)); clear hi hb hk)
  go_ret
  exact ⟨rfl, HP.out⟩

/-! ### miradorref01_Cursor_Little: function 24 -/
def miradorref01_Cursor_Little.j0 : Nat → Int → Bool → ByteArray → Int → Int → Option (Int × ByteArray × Int × Int)
  | 0, _, _, _, _, _ => none
  | k + 1, x1, x14, x1000, x1001, x1002 => if x14 = true then ((miradorref01_Cursor_Bytes.f x1000 x1001 1 x1).bind fun bt192 => ((miradorref01_Turned.f k bt192.1).bind fun t196 => ((miradorref01_Int.f k t196).bind fun t197 => (some (t197, bt192.2.1, bt192.2.2.1, bt192.2.2.2))))) else ((miradorref01_Cursor_Bytes.f x1000 x1001 x1002 x1).bind fun bt198 => ((miradorref01_Turned.f k bt198.1).bind fun t202 => ((miradorref01_Int.f k t202).bind fun t203 => (some (t203, bt198.2.1, bt198.2.2.1, bt198.2.2.2)))))
def miradorref01_Cursor_Little.f (k : Nat) (s0_0 : ByteArray) (s0_1 : Int) (s0_2 : Int) (a1 : Int) : Option (Int × ByteArray × Int × Int) := if s0_2 = 0 then ((miradorref01_Size.f a1).bind fun t191 => (miradorref01_Cursor_Little.j0 k a1 (!t191) s0_0 s0_1 s0_2)) else (miradorref01_Cursor_Little.j0 k a1 false s0_0 s0_1 s0_2)
theorem miradorref01_Cursor_Little.mono_l : ∀ k, (∀ y0 y1 y2 y3 y4, LeO (miradorref01_Cursor_Little.j0 k y0 y1 y2 y3 y4) (miradorref01_Cursor_Little.j0 (k + 1) y0 y1 y2 y3 y4))
  | 0 => fun _ _ _ _ _ r h => by simp [miradorref01_Cursor_Little.j0] at h
  | k + 1 => by
    have ih0 := miradorref01_Cursor_Little.mono_l k
    · intro y0 y1 y2 y3 y4
      unfold miradorref01_Cursor_Little.j0
      repeat' first
      | (with_reducible exact ih0 _ _ _ _ _)
      | (with_reducible exact miradorref01_Int.mono _ _)
      | (with_reducible exact miradorref01_Turned.mono _ _)
      | (with_reducible exact LeO.refl _)
      | (with_reducible exact LeO.none _)
      | (with_reducible refine LeO.ite ?_ ?_)
      | (with_reducible refine LeO.bind ?_ (fun _ => ?_))
      | exact ih0 _ _ _ _ _
      | exact miradorref01_Int.mono _ _
      | exact miradorref01_Turned.mono _ _
      | exact LeO.none _
      | refine LeO.ite ?_ ?_
      | refine LeO.bind ?_ (fun _ => ?_)
theorem miradorref01_Cursor_Little.mono : ∀ a0 a1 a2 a3 k, LeO (miradorref01_Cursor_Little.f k a0 a1 a2 a3) (miradorref01_Cursor_Little.f (k + 1) a0 a1 a2 a3) := by
  intro a0 a1 a2 a3 k
  have ih0 := miradorref01_Cursor_Little.mono_l k
  unfold miradorref01_Cursor_Little.f
  repeat' first
      | (with_reducible exact ih0 _ _ _ _ _)
      | (with_reducible exact miradorref01_Int.mono _ _)
      | (with_reducible exact miradorref01_Turned.mono _ _)
      | (with_reducible exact LeO.refl _)
      | (with_reducible exact LeO.none _)
      | (with_reducible refine LeO.ite ?_ ?_)
      | (with_reducible refine LeO.bind ?_ (fun _ => ?_))
      | exact ih0 _ _ _ _ _
      | exact miradorref01_Int.mono _ _
      | exact miradorref01_Turned.mono _ _
      | exact LeO.none _
      | refine LeO.ite ?_ ?_
      | refine LeO.bind ?_ (fun _ => ?_)
set_option maxHeartbeats 8000000 in
set_option maxRecDepth 100000 in
theorem miradorref01_Cursor_Little.calls (k : Nat) (g : Nat) (s0_0 : ByteArray) (s0_1 : Int) (s0_2 : Int) (a1 : Int) (r1 : Int) (r2 : ByteArray) (r3 : Int) (r4 : Int) (w0 w : World) (hI : IsS39 w0 w g s0_0 s0_1 s0_2) (hB : Below w0.heap.size w0 w) (h : miradorref01_Cursor_Little.f k s0_0 s0_1 s0_2 a1 = some (r1, r2, r3, r4)) :
    Calls Try.prog 24 #[.pointer (some ⟨g, 0, none⟩), .int .i64 a1] w fun e w' => e = .returned (.int .i64 r1) ∧ IsS39 w0 w' g r2 r3 r4 ∧ Below w0.heap.size w0 w' ∧ KeepBut w w' g none := by
  have HI0 := Aside0.mk hI
  have HK := Aside0.mk (KeepBut.refl w g none)
  have HL := Aside0.mk hB.size
  clear hI
  have HW0 := Aside0.mk hB.size
  have HB := Aside0.mk hB
  clear hB
  have H : (if s0_2 = 0 then ((miradorref01_Size.f a1).bind fun t191 => (miradorref01_Cursor_Little.j0 k a1 (!t191) s0_0 s0_1 s0_2)) else (miradorref01_Cursor_Little.j0 k a1 false s0_0 s0_1 s0_2)) = some (r1, r2, r3, r4) := h
  clear h
  have HC3 := Aside0.mk H
  clear H
  go_enter Try.func24, Try.ntmps24
  go_upto_region 1 with (fail)
  go_cut [14] (fun v14 wc => ∃ (kq : Nat) (x14_2 : Bool), v14 = .bool x14_2 ∧ Aside0 (miradorref01_Cursor_Little.j0 kq a1 x14_2 s0_0 s0_1 s0_2 = some (r1, r2, r3, r4)) ∧ Aside0 (kq ≤ k) ∧ Aside0 (IsS39 w0 wc g s0_0 s0_1 s0_2) ∧ Aside0 (KeepBut w wc g none) ∧ Aside0 (Below w0.heap.size w0 wc))
  case first =>
    have H := HC3.out
    clear HC3
    by_cases c4 : s0_2 = 0
    · rw [if_pos c4] at H
      have c4b0 : (s0_2 == 0) = true := beq_iff_eq.mpr c4
      have c4b1 : (s0_2 != 0) = false := bne_eq_false_iff_eq.mpr c4
      clear c4
      (first | rw [c4b0] | (simp only [i64_w, i32_w]; rw [c4b0]) | skip)
      replace H := Option.bind_eq_some_iff.mp H
      obtain ⟨t191, A50, H⟩ := H
      replace H : (miradorref01_Cursor_Little.j0 k a1 (!t191) s0_0 s0_1 s0_2) = some (r1, r2, r3, r4) := H
      have A5 := Aside0.mk A50
      clear A50
      have H' := Aside0.mk H
      clear H
      obtain ⟨HGz6, hgz6⟩ := HI0.out
      have hcz6_0 := cellS39_0 HGz6
      have hcz6_1 := cellS39_1 HGz6
      have hcz6_2 := cellS39_2 HGz6
      have hfz6_0 := blk_frozen HGz6 0
      have hfz6_1 := blk_frozen HGz6 1
      have hfz6_2 := blk_frozen HGz6 2
      clear HGz6 hgz6
      go_wp2_with (first | (go_at_call 30; (with_reducible refine (miradorref01_Size.calls a1 t191 _ A5.out).mono ?_); rintro e w' ⟨rfl, ⟨nd, rfl⟩⟩))
      go_meet
      case rel => exact ⟨_, (!t191), (by first | rfl | (simp; done) | (simp [*]; done)), H', ⟨by first | omega | exact Nat.le_refl _⟩, ⟨by repeat (first | (with_reducible first | exact HI0.out | apply IsS39.alloc | apply IsS39.drewN | apply IsS39.drew | apply IsS39.set_0 | apply IsS39.set_1 | apply IsS39.set_2) | exact HI0.out)⟩, ⟨by repeat (first | (with_reducible first | exact HK.out | apply KeepBut.set_ | apply keep_drewN | apply keep_drew | apply keep_alloc) | exact HK.out)⟩, ⟨by repeat (first | (with_reducible first | exact HB.out | apply below_alloc | apply pw_below_drewN | apply below_drew1 | refine below_set ?_ (IsS39.ge HI0.out)) | exact HB.out)⟩⟩
    · rw [if_neg c4] at H
      have c4b0 : (s0_2 == 0) = false := beq_eq_false_iff_ne.mpr c4
      have c4b1 : (s0_2 != 0) = true := bne_iff_ne.mpr c4
      (first | rw [c4b0] | (simp only [i64_w, i32_w]; rw [c4b0]) | skip)
      have H' := Aside0.mk H
      clear H
      obtain ⟨HGz7, hgz7⟩ := HI0.out
      have hcz7_0 := cellS39_0 HGz7
      have hcz7_1 := cellS39_1 HGz7
      have hcz7_2 := cellS39_2 HGz7
      have hfz7_0 := blk_frozen HGz7 0
      have hfz7_1 := blk_frozen HGz7 1
      have hfz7_2 := blk_frozen HGz7 2
      clear HGz7 hgz7
      go_wp2
      go_meet
      case rel => exact ⟨_, (false), (by first | rfl | (simp; done) | (simp [*]; done)), H', ⟨by first | omega | exact Nat.le_refl _⟩, ⟨by repeat (first | (with_reducible first | exact HI0.out | apply IsS39.alloc | apply IsS39.drewN | apply IsS39.drew | apply IsS39.set_0 | apply IsS39.set_1 | apply IsS39.set_2) | exact HI0.out)⟩, ⟨by repeat (first | (with_reducible first | exact HK.out | apply KeepBut.set_ | apply keep_drewN | apply keep_drew | apply keep_alloc) | exact HK.out)⟩, ⟨by repeat (first | (with_reducible first | exact HB.out | apply below_alloc | apply pw_below_drewN | apply below_drew1 | refine below_set ?_ (IsS39.ge HI0.out)) | exact HB.out)⟩⟩
  case rest =>
    clear HC3
    try clear c2
    try clear p2
    try clear c4
    try clear c4b0
    try clear c4b1
    try clear hcz6_0
    try clear hcz6_1
    try clear hcz6_2
    try clear hcz7_0
    try clear hcz7_1
    try clear hcz7_2
    try clear hfz6_0
    try clear hfz6_1
    try clear hfz6_2
    try clear hfz7_0
    try clear hfz7_1
    try clear hfz7_2
    obtain ⟨kq, x14_2, rfl, HA, HJ2, HI0, HK, HB⟩ := hcut
    cases kq with
    | zero => exact absurd HA.out (by simp [miradorref01_Cursor_Little.j0])
    | succ kj2 =>
      have H := HA.out
      clear HA
      simp only [miradorref01_Cursor_Little.j0] at H
      by_cases c8 : x14_2 = true
      · subst c8
        have H1 : ((miradorref01_Cursor_Bytes.f s0_0 s0_1 1 a1).bind fun bt192 => ((miradorref01_Turned.f kj2 bt192.1).bind fun t196 => ((miradorref01_Int.f kj2 t196).bind fun t197 => (some (t197, bt192.2.1, bt192.2.2.1, bt192.2.2.2))))) = some (r1, r2, r3, r4) := by rw [if_pos rfl] at H; exact H
        clear H
        have H := H1
        clear H1
        replace H := Option.bind_eq_some_iff.mp H
        obtain ⟨⟨t192, t193, t194, t195⟩, A90, H⟩ := H
        replace H : ((miradorref01_Turned.f kj2 t192).bind fun t196 => ((miradorref01_Int.f kj2 t196).bind fun t197 => (some (t197, t193, t194, t195)))) = some (r1, r2, r3, r4) := H
        have A9 := Aside0.mk A90
        clear A90
        replace H := Option.bind_eq_some_iff.mp H
        obtain ⟨t196, A100, H⟩ := H
        replace H : ((miradorref01_Int.f kj2 t196).bind fun t197 => (some (t197, t193, t194, t195))) = some (r1, r2, r3, r4) := H
        have A10 := Aside0.mk A100
        clear A100
        replace H := Option.bind_eq_some_iff.mp H
        obtain ⟨t197, A110, H⟩ := H
        replace H : (some (t197, t193, t194, t195)) = some (r1, r2, r3, r4) := H
        have A11 := Aside0.mk A110
        clear A110
        simp only [Option.some.injEq, Prod.mk.injEq] at H
        obtain ⟨rfl, rfl, rfl, rfl⟩ := H
        obtain ⟨HGz12, hgz12⟩ := HI0.out
        have hcz12_0 := cellS39_0 HGz12
        have hcz12_1 := cellS39_1 HGz12
        have hcz12_2 := cellS39_2 HGz12
        have hfz12_0 := blk_frozen HGz12 0
        have hfz12_1 := blk_frozen HGz12 1
        have hfz12_2 := blk_frozen HGz12 2
        clear HGz12 hgz12
        go_wp2_with (first | ((with_reducible refine gate_callee (f := 26) rfl ?_); refine goesL_ (some 20) rfl rfl Try.func26 (by kernel_rfl) rfl #[.pointer (some ⟨g, 0, none⟩), .int .i64 a1] rfl (by (try simp only [List.map_toArray, List.map_cons, List.map_nil]); first | done | rfl | (simp only [List.length_drop, List.length_take]; rfl)) ?_; (with_reducible refine (miradorref01_Cursor_Bytes.calls g s0_0 s0_1 1 a1 t192 t193 t194 t195 w0 _ ?side1 ?side2 A9.out).mono ?_); (case side1 => repeat (first | (with_reducible first | exact HI0.out | apply IsS39.alloc | apply IsS39.drewN | apply IsS39.drew | apply IsS39.set_0 | apply IsS39.set_1 | apply IsS39.set_2) | exact HI0.out)); (case side2 => repeat (first | (with_reducible first | exact HB.out | apply below_alloc | apply pw_below_drewN | apply below_drew1 | refine below_set ?_ (IsS39.ge HI0.out)) | exact HB.out)); rintro e w13 ⟨rfl, hi, hb, hk⟩; refine ⟨_, rfl, ?_⟩; have n0_ := Aside0.mk (KeepBut.trans (by repeat (first | (with_reducible first | exact HK.out | apply KeepBut.set_ | apply keep_drewN | apply keep_drew | apply keep_alloc) | exact HK.out)) hk (.inl rfl)); have n1_ := Aside0.mk (hb); have n2_ := Aside0.mk (hi); clear HK; clear HB; clear HI0; have HK := n0_; have HB := n1_; have HI0 := n2_; clear n0_ n1_ n2_; (try clear hb); (try clear hb2); (try clear hk); (try clear hi)) | ((with_reducible refine gate_callee (f := 12) rfl ?_); refine goesL_ (some 21) rfl rfl Try.func12 (by kernel_rfl) rfl #[.string t192] rfl (by (try simp only [List.map_toArray, List.map_cons, List.map_nil]); first | done | rfl | (simp only [List.length_drop, List.length_take]; rfl)) ?_; (with_reducible refine (miradorref01_Turned.calls kj2 t192 t196 _ A10.out).mono ?_); rintro e w' ⟨rfl, ⟨nd, rfl⟩⟩; refine ⟨_, rfl, ?_⟩) | ((with_reducible refine gate_callee (f := 35) rfl ?_); refine goesL_ (some 22) rfl rfl Try.func35 (by kernel_rfl) rfl #[.string t196] rfl (by (try simp only [List.map_toArray, List.map_cons, List.map_nil]); first | done | rfl | (simp only [List.length_drop, List.length_take]; rfl)) ?_; (with_reducible refine (miradorref01_Int.calls kj2 t196 t197 _ A11.out).mono ?_); rintro e w' ⟨rfl, ⟨nd, rfl⟩⟩; refine ⟨_, rfl, ?_⟩))
        go_ret
        exact ⟨by first | rfl | (simp [errW_none, errW_some] <;> rfl) | (simp [*, errW_none, errW_some] <;> rfl), by repeat (first | (with_reducible first | exact HI0.out | apply IsS39.alloc | apply IsS39.drewN | apply IsS39.drew | apply IsS39.set_0 | apply IsS39.set_1 | apply IsS39.set_2) | exact HI0.out), by repeat (first | (with_reducible first | exact HB.out | apply below_alloc | apply pw_below_drewN | apply below_drew1 | refine below_set ?_ (IsS39.ge HI0.out)) | exact HB.out), by repeat (first | (with_reducible first | exact HK.out | apply KeepBut.set_ | apply keep_drewN | apply keep_drew | apply keep_alloc) | exact HK.out)⟩
      · replace c8 := Bool.eq_false_iff.mpr c8
        subst c8
        have H1 : ((miradorref01_Cursor_Bytes.f s0_0 s0_1 s0_2 a1).bind fun bt198 => ((miradorref01_Turned.f kj2 bt198.1).bind fun t202 => ((miradorref01_Int.f kj2 t202).bind fun t203 => (some (t203, bt198.2.1, bt198.2.2.1, bt198.2.2.2))))) = some (r1, r2, r3, r4) := by rw [if_neg (show ¬ (false = true) by decide)] at H; exact H
        clear H
        have H := H1
        clear H1
        replace H := Option.bind_eq_some_iff.mp H
        obtain ⟨⟨t198, t199, t200, t201⟩, A140, H⟩ := H
        replace H : ((miradorref01_Turned.f kj2 t198).bind fun t202 => ((miradorref01_Int.f kj2 t202).bind fun t203 => (some (t203, t199, t200, t201)))) = some (r1, r2, r3, r4) := H
        have A14 := Aside0.mk A140
        clear A140
        replace H := Option.bind_eq_some_iff.mp H
        obtain ⟨t202, A150, H⟩ := H
        replace H : ((miradorref01_Int.f kj2 t202).bind fun t203 => (some (t203, t199, t200, t201))) = some (r1, r2, r3, r4) := H
        have A15 := Aside0.mk A150
        clear A150
        replace H := Option.bind_eq_some_iff.mp H
        obtain ⟨t203, A160, H⟩ := H
        replace H : (some (t203, t199, t200, t201)) = some (r1, r2, r3, r4) := H
        have A16 := Aside0.mk A160
        clear A160
        simp only [Option.some.injEq, Prod.mk.injEq] at H
        obtain ⟨rfl, rfl, rfl, rfl⟩ := H
        go_wp2_with (first | ((with_reducible refine gate_callee (f := 26) rfl ?_); refine goesL_ (some 20) rfl rfl Try.func26 (by kernel_rfl) rfl #[.pointer (some ⟨g, 0, none⟩), .int .i64 a1] rfl (by (try simp only [List.map_toArray, List.map_cons, List.map_nil]); first | done | rfl | (simp only [List.length_drop, List.length_take]; rfl)) ?_; (with_reducible refine (miradorref01_Cursor_Bytes.calls g s0_0 s0_1 s0_2 a1 t198 t199 t200 t201 w0 _ ?side1 ?side2 A14.out).mono ?_); (case side1 => repeat (first | (with_reducible first | exact HI0.out | apply IsS39.alloc | apply IsS39.drewN | apply IsS39.drew | apply IsS39.set_0 | apply IsS39.set_1 | apply IsS39.set_2) | exact HI0.out)); (case side2 => repeat (first | (with_reducible first | exact HB.out | apply below_alloc | apply pw_below_drewN | apply below_drew1 | refine below_set ?_ (IsS39.ge HI0.out)) | exact HB.out)); rintro e w17 ⟨rfl, hi, hb, hk⟩; refine ⟨_, rfl, ?_⟩; have n0_ := Aside0.mk (KeepBut.trans (by repeat (first | (with_reducible first | exact HK.out | apply KeepBut.set_ | apply keep_drewN | apply keep_drew | apply keep_alloc) | exact HK.out)) hk (.inl rfl)); have n1_ := Aside0.mk (hb); have n2_ := Aside0.mk (hi); clear HK; clear HB; clear HI0; have HK := n0_; have HB := n1_; have HI0 := n2_; clear n0_ n1_ n2_; (try clear hb); (try clear hb2); (try clear hk); (try clear hi)) | ((with_reducible refine gate_callee (f := 12) rfl ?_); refine goesL_ (some 21) rfl rfl Try.func12 (by kernel_rfl) rfl #[.string t198] rfl (by (try simp only [List.map_toArray, List.map_cons, List.map_nil]); first | done | rfl | (simp only [List.length_drop, List.length_take]; rfl)) ?_; (with_reducible refine (miradorref01_Turned.calls kj2 t198 t202 _ A15.out).mono ?_); rintro e w' ⟨rfl, ⟨nd, rfl⟩⟩; refine ⟨_, rfl, ?_⟩) | ((with_reducible refine gate_callee (f := 35) rfl ?_); refine goesL_ (some 22) rfl rfl Try.func35 (by kernel_rfl) rfl #[.string t202] rfl (by (try simp only [List.map_toArray, List.map_cons, List.map_nil]); first | done | rfl | (simp only [List.length_drop, List.length_take]; rfl)) ?_; (with_reducible refine (miradorref01_Int.calls kj2 t202 t203 _ A16.out).mono ?_); rintro e w' ⟨rfl, ⟨nd, rfl⟩⟩; refine ⟨_, rfl, ?_⟩))
        go_ret
        exact ⟨by first | rfl | (simp [errW_none, errW_some] <;> rfl) | (simp [*, errW_none, errW_some] <;> rfl), by repeat (first | (with_reducible first | exact HI0.out | apply IsS39.alloc | apply IsS39.drewN | apply IsS39.drew | apply IsS39.set_0 | apply IsS39.set_1 | apply IsS39.set_2) | exact HI0.out), by repeat (first | (with_reducible first | exact HB.out | apply below_alloc | apply pw_below_drewN | apply below_drew1 | refine below_set ?_ (IsS39.ge HI0.out)) | exact HB.out), by repeat (first | (with_reducible first | exact HK.out | apply KeepBut.set_ | apply keep_drewN | apply keep_drew | apply keep_alloc) | exact HK.out)⟩

/-! ### miradorref01_Minus: function 37 -/
def miradorref01_Minus.f (a0 : Int) : Option (Int) := if a0 > 2147483647 then (some (wrap64 (a0 - 4294967296))) else (some a0)
set_option maxHeartbeats 8000000 in
set_option maxRecDepth 100000 in
theorem miradorref01_Minus.calls (a0 : Int) (r : Int) (w : World) (h : miradorref01_Minus.f a0 = some r) :
    Calls Try.prog 37 #[.int .i64 a0] w fun e w' => e = .returned (.int .i64 r) ∧ Drawn0 w w' := by
  have H : (if a0 > 2147483647 then (some (wrap64 (a0 - 4294967296))) else (some a0)) = some r := h
  clear h
  by_cases c2 : a0 > 2147483647
  · rw [if_pos c2] at H
    have c2b0 : decide (2147483647 < a0) = true := decide_eq_true c2
    clear c2
    obtain rfl := Option.some.inj H
    go_enter Try.func37, Try.ntmps37
    go_wp2
    go_ret
    exact ⟨by first | rfl | (simp; done) | (simp [*]; done), by repeat (first | exact Drawn0.refl _ | apply Drawn0.step)⟩
  · rw [if_neg c2] at H
    have c2b0 : decide (2147483647 < a0) = false := decide_eq_false c2
    clear c2
    obtain rfl := Option.some.inj H
    go_enter Try.func37, Try.ntmps37
    go_wp2
    go_ret
    exact ⟨by first | rfl | (simp; done) | (simp [*]; done), by repeat (first | exact Drawn0.refl _ | apply Drawn0.step)⟩

/-! ### miradorref01_Cursor_Signed: function 25 -/
def miradorref01_Cursor_Signed.f (k : Nat) (s0_0 : ByteArray) (s0_1 : Int) (s0_2 : Int) : Option (Int × ByteArray × Int × Int) := (miradorref01_Cursor_Int.f k s0_0 s0_1 s0_2 4).bind fun bt204 => ((miradorref01_Minus.f bt204.1).bind fun t208 => (some (t208, bt204.2.1, bt204.2.2.1, bt204.2.2.2)))
theorem miradorref01_Cursor_Signed.mono : ∀ a0 a1 a2 k, LeO (miradorref01_Cursor_Signed.f k a0 a1 a2) (miradorref01_Cursor_Signed.f (k + 1) a0 a1 a2) := by
  intro a0 a1 a2 k
  unfold miradorref01_Cursor_Signed.f
  repeat' first
      | (with_reducible exact miradorref01_Cursor_Int.mono _ _ _ _ _)
      | (with_reducible exact LeO.refl _)
      | (with_reducible exact LeO.none _)
      | (with_reducible refine LeO.ite ?_ ?_)
      | (with_reducible refine LeO.bind ?_ (fun _ => ?_))
      | exact miradorref01_Cursor_Int.mono _ _ _ _ _
      | exact LeO.none _
      | refine LeO.ite ?_ ?_
      | refine LeO.bind ?_ (fun _ => ?_)
set_option maxHeartbeats 8000000 in
set_option maxRecDepth 100000 in
theorem miradorref01_Cursor_Signed.calls (k : Nat) (g : Nat) (s0_0 : ByteArray) (s0_1 : Int) (s0_2 : Int) (r1 : Int) (r2 : ByteArray) (r3 : Int) (r4 : Int) (w0 w : World) (hI : IsS39 w0 w g s0_0 s0_1 s0_2) (hB : Below w0.heap.size w0 w) (h : miradorref01_Cursor_Signed.f k s0_0 s0_1 s0_2 = some (r1, r2, r3, r4)) :
    Calls Try.prog 25 #[.pointer (some ⟨g, 0, none⟩)] w fun e w' => e = .returned (.int .i64 r1) ∧ IsS39 w0 w' g r2 r3 r4 ∧ Below w0.heap.size w0 w' ∧ KeepBut w w' g none := by
  have HI0 := Aside0.mk hI
  have HK := Aside0.mk (KeepBut.refl w g none)
  have HL := Aside0.mk hB.size
  clear hI
  have HW0 := Aside0.mk hB.size
  have HB := Aside0.mk hB
  clear hB
  have H : ((miradorref01_Cursor_Int.f k s0_0 s0_1 s0_2 4).bind fun bt204 => ((miradorref01_Minus.f bt204.1).bind fun t208 => (some (t208, bt204.2.1, bt204.2.2.1, bt204.2.2.2)))) = some (r1, r2, r3, r4) := h
  clear h
  replace H := Option.bind_eq_some_iff.mp H
  obtain ⟨⟨t204, t205, t206, t207⟩, A20, H⟩ := H
  replace H : ((miradorref01_Minus.f t204).bind fun t208 => (some (t208, t205, t206, t207))) = some (r1, r2, r3, r4) := H
  have A2 := Aside0.mk A20
  clear A20
  replace H := Option.bind_eq_some_iff.mp H
  obtain ⟨t208, A30, H⟩ := H
  replace H : (some (t208, t205, t206, t207)) = some (r1, r2, r3, r4) := H
  have A3 := Aside0.mk A30
  clear A30
  simp only [Option.some.injEq, Prod.mk.injEq] at H
  obtain ⟨rfl, rfl, rfl, rfl⟩ := H
  go_enter Try.func25, Try.ntmps25
  go_wp2_with (first | ((with_reducible refine gate_callee (f := 22) rfl ?_); refine goesL_ (some 4) rfl rfl Try.func22 (by kernel_rfl) rfl #[.pointer (some ⟨g, 0, none⟩), .int .i64 4] rfl (by (try simp only [List.map_toArray, List.map_cons, List.map_nil]); first | done | rfl | (simp only [List.length_drop, List.length_take]; rfl)) ?_; (with_reducible refine (miradorref01_Cursor_Int.calls k g s0_0 s0_1 s0_2 4 t204 t205 t206 t207 w0 _ ?side1 ?side2 A2.out).mono ?_); (case side1 => repeat (first | (with_reducible first | exact HI0.out | apply IsS39.alloc | apply IsS39.drewN | apply IsS39.drew | apply IsS39.set_0 | apply IsS39.set_1 | apply IsS39.set_2) | exact HI0.out)); (case side2 => repeat (first | (with_reducible first | exact HB.out | apply below_alloc | apply pw_below_drewN | apply below_drew1 | refine below_set ?_ (IsS39.ge HI0.out)) | exact HB.out)); rintro e w4 ⟨rfl, hi, hb, hk⟩; refine ⟨_, rfl, ?_⟩; have n0_ := Aside0.mk (KeepBut.trans (by repeat (first | (with_reducible first | exact HK.out | apply KeepBut.set_ | apply keep_drewN | apply keep_drew | apply keep_alloc) | exact HK.out)) hk (.inl rfl)); have n1_ := Aside0.mk (hb); have n2_ := Aside0.mk (hi); clear HK; clear HB; clear HI0; have HK := n0_; have HB := n1_; have HI0 := n2_; clear n0_ n1_ n2_; (try clear hb); (try clear hb2); (try clear hk); (try clear hi)) | ((with_reducible refine gate_callee (f := 37) rfl ?_); refine goesL_ (some 5) rfl rfl Try.func37 (by kernel_rfl) rfl #[.int .i64 t204] rfl (by (try simp only [List.map_toArray, List.map_cons, List.map_nil]); first | done | rfl | (simp only [List.length_drop, List.length_take]; rfl)) ?_; (with_reducible refine (miradorref01_Minus.calls t204 t208 _ A3.out).mono ?_); rintro e w' ⟨rfl, ⟨nd, rfl⟩⟩; refine ⟨_, rfl, ?_⟩))
  go_ret
  exact ⟨by first | rfl | (simp [errW_none, errW_some] <;> rfl) | (simp [*, errW_none, errW_some] <;> rfl), by repeat (first | (with_reducible first | exact HI0.out | apply IsS39.alloc | apply IsS39.drewN | apply IsS39.drew | apply IsS39.set_0 | apply IsS39.set_1 | apply IsS39.set_2) | exact HI0.out), by repeat (first | (with_reducible first | exact HB.out | apply below_alloc | apply pw_below_drewN | apply below_drew1 | refine below_set ?_ (IsS39.ge HI0.out)) | exact HB.out), by repeat (first | (with_reducible first | exact HK.out | apply KeepBut.set_ | apply keep_drewN | apply keep_drew | apply keep_alloc) | exact HK.out)⟩

/-! ### miradorref01_Cursor_End: function 28 -/
def miradorref01_Cursor_End.f (s0_0 : ByteArray) (s0_1 : Int) (s0_2 : Int) : Option (Int × ByteArray × Int × Int) := if s0_2 = 0 then (if s0_1 < (s0_0.size : Int) then (some (3, s0_0, s0_1, s0_2)) else (some (s0_2, s0_0, s0_1, s0_2))) else (some (s0_2, s0_0, s0_1, s0_2))
set_option maxHeartbeats 8000000 in
set_option maxRecDepth 100000 in
theorem miradorref01_Cursor_End.calls (g : Nat) (s0_0 : ByteArray) (s0_1 : Int) (s0_2 : Int) (r1 : Int) (r2 : ByteArray) (r3 : Int) (r4 : Int) (w0 w : World) (hI : IsS39 w0 w g s0_0 s0_1 s0_2) (hB : Below w0.heap.size w0 w) (h : miradorref01_Cursor_End.f s0_0 s0_1 s0_2 = some (r1, r2, r3, r4)) :
    Calls Try.prog 28 #[.pointer (some ⟨g, 0, none⟩)] w fun e w' => e = .returned (.int .i64 r1) ∧ IsS39 w0 w' g r2 r3 r4 ∧ Below w0.heap.size w0 w' ∧ KeepBut w w' g none := by
  have HI0 := Aside0.mk hI
  have HK := Aside0.mk (KeepBut.refl w g none)
  have HL := Aside0.mk hB.size
  clear hI
  have HW0 := Aside0.mk hB.size
  have HB := Aside0.mk hB
  clear hB
  have H : (if s0_2 = 0 then (if s0_1 < (s0_0.size : Int) then (some (3, s0_0, s0_1, s0_2)) else (some (s0_2, s0_0, s0_1, s0_2))) else (some (s0_2, s0_0, s0_1, s0_2))) = some (r1, r2, r3, r4) := h
  clear h
  by_cases c2 : s0_2 = 0
  · rw [if_pos c2] at H
    have c2b0 : (s0_2 == 0) = true := beq_iff_eq.mpr c2
    have c2b1 : (s0_2 != 0) = false := bne_eq_false_iff_eq.mpr c2
    clear c2
    by_cases c3 : s0_1 < (s0_0.size : Int)
    · rw [if_pos c3] at H
      have c3b0 : decide (s0_1 < (s0_0.size : Int)) = true := decide_eq_true c3
      clear c3
      simp only [Option.some.injEq, Prod.mk.injEq] at H
      obtain ⟨rfl, rfl, rfl, rfl⟩ := H
      obtain ⟨HGz4, hgz4⟩ := HI0.out
      have hcz4_0 := cellS39_0 HGz4
      have hcz4_1 := cellS39_1 HGz4
      have hcz4_2 := cellS39_2 HGz4
      have hfz4_0 := blk_frozen HGz4 0
      have hfz4_1 := blk_frozen HGz4 1
      have hfz4_2 := blk_frozen HGz4 2
      clear HGz4 hgz4
      go_enter Try.func28, Try.ntmps28
      go_wp2
      repeat (go_quiet (fail); try go_wp2)
      go_ret
      exact ⟨by first | rfl | (simp [errW_none, errW_some] <;> rfl) | (simp [*, errW_none, errW_some] <;> rfl), by repeat (first | (with_reducible first | exact HI0.out | apply IsS39.alloc | apply IsS39.drewN | apply IsS39.drew | apply IsS39.set_0 | apply IsS39.set_1 | apply IsS39.set_2) | exact HI0.out), by repeat (first | (with_reducible first | exact HB.out | apply below_alloc | apply pw_below_drewN | apply below_drew1 | refine below_set ?_ (IsS39.ge HI0.out)) | exact HB.out), by repeat (first | (with_reducible first | exact HK.out | apply KeepBut.set_ | apply keep_drewN | apply keep_drew | apply keep_alloc) | exact HK.out)⟩
    · rw [if_neg c3] at H
      have c3b0 : decide (s0_1 < (s0_0.size : Int)) = false := decide_eq_false c3
      clear c3
      simp only [Option.some.injEq, Prod.mk.injEq] at H
      obtain ⟨rfl, rfl, rfl, rfl⟩ := H
      obtain ⟨HGz5, hgz5⟩ := HI0.out
      have hcz5_0 := cellS39_0 HGz5
      have hcz5_1 := cellS39_1 HGz5
      have hcz5_2 := cellS39_2 HGz5
      have hfz5_0 := blk_frozen HGz5 0
      have hfz5_1 := blk_frozen HGz5 1
      have hfz5_2 := blk_frozen HGz5 2
      clear HGz5 hgz5
      go_enter Try.func28, Try.ntmps28
      go_wp2
      repeat (go_quiet (fail); try go_wp2)
      go_ret
      exact ⟨by first | rfl | (simp [errW_none, errW_some] <;> rfl) | (simp [*, errW_none, errW_some] <;> rfl), by repeat (first | (with_reducible first | exact HI0.out | apply IsS39.alloc | apply IsS39.drewN | apply IsS39.drew | apply IsS39.set_0 | apply IsS39.set_1 | apply IsS39.set_2) | exact HI0.out), by repeat (first | (with_reducible first | exact HB.out | apply below_alloc | apply pw_below_drewN | apply below_drew1 | refine below_set ?_ (IsS39.ge HI0.out)) | exact HB.out), by repeat (first | (with_reducible first | exact HK.out | apply KeepBut.set_ | apply keep_drewN | apply keep_drew | apply keep_alloc) | exact HK.out)⟩
  · rw [if_neg c2] at H
    have c2b0 : (s0_2 == 0) = false := beq_eq_false_iff_ne.mpr c2
    have c2b1 : (s0_2 != 0) = true := bne_iff_ne.mpr c2
    simp only [Option.some.injEq, Prod.mk.injEq] at H
    obtain ⟨rfl, rfl, rfl, rfl⟩ := H
    obtain ⟨HGz6, hgz6⟩ := HI0.out
    have hcz6_0 := cellS39_0 HGz6
    have hcz6_1 := cellS39_1 HGz6
    have hcz6_2 := cellS39_2 HGz6
    have hfz6_0 := blk_frozen HGz6 0
    have hfz6_1 := blk_frozen HGz6 1
    have hfz6_2 := blk_frozen HGz6 2
    clear HGz6 hgz6
    go_enter Try.func28, Try.ntmps28
    go_wp2
    repeat (go_quiet (fail); try go_wp2)
    go_ret
    exact ⟨by first | rfl | (simp [errW_none, errW_some] <;> rfl) | (simp [*, errW_none, errW_some] <;> rfl), by repeat (first | (with_reducible first | exact HI0.out | apply IsS39.alloc | apply IsS39.drewN | apply IsS39.drew | apply IsS39.set_0 | apply IsS39.set_1 | apply IsS39.set_2) | exact HI0.out), by repeat (first | (with_reducible first | exact HB.out | apply below_alloc | apply pw_below_drewN | apply below_drew1 | refine below_set ?_ (IsS39.ge HI0.out)) | exact HB.out), by repeat (first | (with_reducible first | exact HK.out | apply KeepBut.set_ | apply keep_drewN | apply keep_drew | apply keep_alloc) | exact HK.out)⟩

-- NOT PRINTED: function 6 (miradorlaw01_OctetsReads)

end Go.Proofs.Ytcacnnjedfkelaa.X
