/- What each Go function that these laws use answers: as a Lean function, with the proof that the machine's call comes to it. Written by a program of this session (xprint.py). -/
import Derived.Test.YtkmfhfejogjnfaaXx0
import Derived.Test.YtkmfhfejogjnfaaXx8
import Derived.Test.YtkmfhfejogjnfaaXx14
import Derived.Test.YtkmfhfejogjnfaaXx18
import Derived.Test.YtkmfhfejogjnfaaXx19
import Derived.Test.YtkmfhfejogjnfaaXx20
import Derived.Test.YtkmfhfejogjnfaaXx22
namespace Go.Proofs.Ytkmfhfejogjnfaa.X
open Go.RowKit Go.Proofs.YtkmfhfejogjnfaaW.PrintWords Go.Proofs.YtkmfhfejogjnfaaW.PrintLast Go.Proofs.YtkmfhfejogjnfaaW.PrintMore
attribute [local go_sem] max2_int min2_int max_two min_two max_three min_three max_four min_four   -- for this text's walks alone
set_option linter.unusedVariables false
set_option linter.unusedSimpArgs false

/-! ### format_Colour: function 42 -/
/-- What the parts l add to v: a value's colour. -/
def format_cF (c : Int) : List (Int × Int) → Int → Option Int
  | [], v => some v
  | (m, s) :: l, v => if 0 ≤ s then if m = 0 then none else format_cF c l (Go.bits .or .i64 (wrap64 (v * 256)) (wrap64 (Int.tdiv (wrap64 ((wrap64 ((Go.bits .and .i64 (c / 2 ^ min s.toNat 64) m) * 255)) + (wrap64 (Int.tdiv m 2)))) m))) else none
def format_Colour.f (a0_0 : Int) (a0_1 : Int) (a0_2 : Bool) (a0_3 : Bool) (a0_4 : Int) (a0_5 : Int) (a0_6 : Int) (a0_7 : Int) (a0_8 : Int) (a0_9 : Int) (a1 : Int) : Option Int :=
  (format_Valid.f a0_0 a0_1 a0_2 a0_3 a0_4 a0_5 a0_6 a0_7 a0_8 a0_9).bind fun b => if b = true then format_cF a1 [(a0_4, a0_7), (a0_5, a0_8), (a0_6, a0_9)] 0 else some 0
set_option maxHeartbeats 2000000 in
set_option maxRecDepth 100000 in
theorem format_Colour.calls (a0_0 : Int) (a0_1 : Int) (a0_2 : Bool) (a0_3 : Bool) (a0_4 : Int) (a0_5 : Int) (a0_6 : Int) (a0_7 : Int) (a0_8 : Int) (a0_9 : Int) (a1 : Int) (r : Int) (w : World) (h : format_Colour.f a0_0 a0_1 a0_2 a0_3 a0_4 a0_5 a0_6 a0_7 a0_8 a0_9 a1 = some r) :
    Calls Try.prog 42 #[.agg #[.int .i64 a0_0, .int .i64 a0_1, .bool a0_2, .bool a0_3, .int .i64 a0_4, .int .i64 a0_5, .int .i64 a0_6, .int .i64 a0_7, .int .i64 a0_8, .int .i64 a0_9], .int .i64 a1] w fun e w' => e = .returned (.int .i64 r) ∧ Below w.heap.size w w' := by
  unfold format_Colour.f at h
  cases hv : format_Valid.f a0_0 a0_1 a0_2 a0_3 a0_4 a0_5 a0_6 a0_7 a0_8 a0_9 with
  | none => rw [hv] at h; cases h
  | some b =>
    rw [hv] at h
    simp only [Option.bind_some] at h
    have HV := Lib.hid hv
    have HW := Lib.hid (below_alloc (Below.refl w.heap.size w) (.cells #[.int .i64 a0_0, .int .i64 a0_1, .bool a0_2, .bool a0_3, .int .i64 a0_4, .int .i64 a0_5, .int .i64 a0_6, .int .i64 a0_7, .int .i64 a0_8, .int .i64 a0_9] 37))
    have HG := Lib.hid (heap_alloc_new w (.cells #[.int .i64 a0_0, .int .i64 a0_1, .bool a0_2, .bool a0_3, .int .i64 a0_4, .int .i64 a0_5, .int .i64 a0_6, .int .i64 a0_7, .int .i64 a0_8, .int .i64 a0_9] 37))
    clear hv
    cases b with
    | false =>
      rw [if_neg (by decide)] at h
      obtain rfl := Option.some.inj h
      clear h
      go_enter Try.func42, Try.ntmps42
      go_wp2_with fail
      refine (format_Valid.calls _ _ _ _ _ _ _ _ _ _ false _ HV.out).mono ?_
      rintro e w1 ⟨rfl, hb⟩
      have HB := Lib.hid (HW.out.trans (Below.mono hb (by simp)))
      clear hb
      go_wp2_with fail
      go_ret
      exact ⟨rfl, HB.out⟩
    | true =>
      rw [if_pos rfl] at h
      have H := Lib.hid (show format_cF a1 (format_rest a0_4 a0_5 a0_6 a0_7 a0_8 a0_9 0) 0 = some r from h)
      clear h
      go_enter Try.func42, Try.ntmps42
      go_wp2_with fail
      refine (format_Valid.calls _ _ _ _ _ _ _ _ _ _ true _ HV.out).mono ?_
      rintro e w1 ⟨rfl, hb⟩
      have HB := Lib.hid (HW.out.trans (Below.mono hb (by simp)))
      have hg := (hb.block w.heap.size (by simp)).trans HG.out
      have q0 : w1.cell? ⟨w.heap.size, 0, none⟩ = some (.int .i64 a0_0) := by rw [World.cell?, hg]; rfl
      have q1 : w1.cell? ⟨w.heap.size, 1, none⟩ = some (.int .i64 a0_1) := by rw [World.cell?, hg]; rfl
      have q2 : w1.cell? ⟨w.heap.size, 2, none⟩ = some (.bool a0_2) := by rw [World.cell?, hg]; rfl
      have q3 : w1.cell? ⟨w.heap.size, 3, none⟩ = some (.bool a0_3) := by rw [World.cell?, hg]; rfl
      have q4 : w1.cell? ⟨w.heap.size, 4, none⟩ = some (.int .i64 a0_4) := by rw [World.cell?, hg]; rfl
      have q5 : w1.cell? ⟨w.heap.size, 5, none⟩ = some (.int .i64 a0_5) := by rw [World.cell?, hg]; rfl
      have q6 : w1.cell? ⟨w.heap.size, 6, none⟩ = some (.int .i64 a0_6) := by rw [World.cell?, hg]; rfl
      have q7 : w1.cell? ⟨w.heap.size, 7, none⟩ = some (.int .i64 a0_7) := by rw [World.cell?, hg]; rfl
      have q8 : w1.cell? ⟨w.heap.size, 8, none⟩ = some (.int .i64 a0_8) := by rw [World.cell?, hg]; rfl
      have q9 : w1.cell? ⟨w.heap.size, 9, none⟩ = some (.int .i64 a0_9) := by rw [World.cell?, hg]; rfl
      clear hb hg
      go_wp2_with fail
      refine (format_parts_c _ _ _ _ _ _ _ _ _ _ _).mono ?_
      rintro e w2 ⟨rfl, hb⟩
      have HB2 := Lib.hid (HB.out.trans (Below.mono hb HB.out.size))
      clear hb q0 q1 q2 q3 q4 q5 q6 q7 q8 q9
      go_wp2_with fail
      go_loopw [5, 14] (fun v i wr => ∃ (k : Nat) (x : Int), k ≤ 3 ∧ i = .int .i64 k ∧ v = .int .i64 x ∧ Hid (format_cF a1 (format_rest a0_4 a0_5 a0_6 a0_7 a0_8 a0_9 k) x = some r) ∧ Hid (Below w.heap.size w wr)) (fun _ i _ => 3 - (intOf i).toNat)
      case atStart => exact ⟨0, 0, by omega, rfl, rfl, H, HB2⟩
      case round =>
        obtain ⟨k, x, hk, rfl, rfl, HO, HY⟩ := hrel
        by_cases hk3 : k < 3
        · have hix := fun wx => format_index a0_4 a0_5 a0_6 a0_7 a0_8 a0_9 k hk3 wx
          have ho := HO.out
          rw [format_rest_at _ _ _ _ _ _ k hk3] at ho
          obtain ⟨m, hm⟩ : ∃ m, (format_pm a0_4 a0_5 a0_6 a0_7 a0_8 a0_9 k).1 = m := ⟨_, rfl⟩
          obtain ⟨s, hs⟩ : ∃ s, (format_pm a0_4 a0_5 a0_6 a0_7 a0_8 a0_9 k).2 = s := ⟨_, rfl⟩
          simp only [hm, hs] at hix
          rw [hm, hs] at ho
          clear hm hs HO
          unfold format_cF at ho
          have hs0 : 0 ≤ s := by
            rcases Int.lt_or_le s 0 with h | h
            · rw [if_neg (by omega)] at ho; cases ho
            · exact h
          rw [if_pos hs0] at ho
          have hm0 : m ≠ 0 := by
            intro h
            rw [if_pos h] at ho; cases ho
          rw [if_neg hm0] at ho
          have hmb : (m == 0) = false := by simpa using hm0
          have HN := Lib.hid ho
          clear ho
          go_wp2_with fail
          go_quiet (fail)
          go_wp2_with fail
          go_roundw
          case rel => exact ⟨k + 1, _, by omega, by go_num, rfl, HN, Lib.hid (pw_below_drewN (below_alloc HY.out _) _)⟩
          case measure => simp [intOf]; omega
        · obtain rfl : k = 3 := by omega
          have ho := HO.out
          obtain rfl : x = r := Option.some.inj ho
          clear ho HO
          go_wp2_with fail
          go_ret
          exact ⟨rfl, HY.out⟩

/-! ### octets_Cursor_Err: function 85 -/
def octets_Cursor_Err.f (s0_0 : ByteArray) (s0_1 : Int) (s0_2 : Int) : Option (Int × ByteArray × Int × Int) := some (s0_2, s0_0, s0_1, s0_2)
set_option maxHeartbeats 8000000 in
set_option maxRecDepth 100000 in
theorem octets_Cursor_Err.calls (g : Nat) (s0_0 : ByteArray) (s0_1 : Int) (s0_2 : Int) (r1 : Int) (r2 : ByteArray) (r3 : Int) (r4 : Int) (w0 w : World) (hI : IsS96 w0 w g s0_0 s0_1 s0_2) (hB : Below w0.heap.size w0 w) (h : octets_Cursor_Err.f s0_0 s0_1 s0_2 = some (r1, r2, r3, r4)) :
    Calls Try.prog 85 #[.pointer (some ⟨g, 0, none⟩)] w fun e w' => e = .returned (.int .i64 r1) ∧ IsS96 w0 w' g r2 r3 r4 ∧ Below w0.heap.size w0 w' ∧ KeepBut w w' g none := by
  have HI0 := Aside0.mk hI
  have HK := Aside0.mk (KeepBut.refl w g none)
  have HL := Aside0.mk hB.size
  clear hI
  have HW0 := Aside0.mk hB.size
  have HB := Aside0.mk hB
  clear hB
  have H : (some (s0_2, s0_0, s0_1, s0_2)) = some (r1, r2, r3, r4) := h
  clear h
  simp only [Option.some.injEq, Prod.mk.injEq] at H
  obtain ⟨rfl, rfl, rfl, rfl⟩ := H
  obtain ⟨HGz2, hgz2⟩ := HI0.out
  have hcz2_0 := cellS96_0 HGz2
  have hcz2_1 := cellS96_1 HGz2
  have hcz2_2 := cellS96_2 HGz2
  have hfz2_0 := blk_frozen HGz2 0
  have hfz2_1 := blk_frozen HGz2 1
  have hfz2_2 := blk_frozen HGz2 2
  clear HGz2 hgz2
  go_enter Try.func85, Try.ntmps85
  go_wp2
  go_ret
  exact ⟨by first | rfl | (simp [errW_none, errW_some] <;> rfl) | (simp [*, errW_none, errW_some] <;> rfl), by repeat (first | (with_reducible first | exact HI0.out | apply IsS96.alloc | apply IsS96.drewN | apply IsS96.drew | apply IsS96.set_0 | apply IsS96.set_1 | apply IsS96.set_2) | exact HI0.out), by repeat (first | (with_reducible first | exact HB.out | apply below_alloc | apply pw_below_drewN | apply below_drew1 | refine below_set ?_ (IsS96.ge HI0.out)) | exact HB.out), by repeat (first | (with_reducible first | exact HK.out | apply KeepBut.set_ | apply keep_drewN | apply keep_drew | apply keep_alloc) | exact HK.out)⟩

/-! ### rre_next: function 68 -/
/-- A cursor: its text, where it is, what is wrong. -/
abbrev CSt := ByteArray × Int × Int
/-- The worlds of a walk with a cursor in block g: all else of w is as it was. -/
structure CW (w0 w : World) (g : Nat) (st : CSt) (W : World) : Prop where
  st : IsS96 w0 W g st.1 st.2.1 st.2.2
  below : Below w0.heap.size w0 W
  keep : KeepBut w W g none
section
variable {w0 w W W' : World} {g : Nat} {st st' : CSt}
theorem CW.start (hI : IsS96 w0 w g st.1 st.2.1 st.2.2) (hB : Below w0.heap.size w0 w) : CW w0 w g st w := ⟨hI, hB, KeepBut.refl _ _ _⟩
theorem CW.step (h : CW w0 w g st W) (hb : Below W.heap.size W W') : CW w0 w g st W' := ⟨h.st.below hb, h.below.trans (hb.mono h.below.size), h.keep.trans (KeepBut.of_below hb g none) (.inl rfl)⟩
theorem CW.call (h : CW w0 w g st W) (hi : IsS96 w0 W' g st'.1 st'.2.1 st'.2.2) (hb : Below w0.heap.size w0 W') (hk : KeepBut W W' g none) : CW w0 w g st' W' := ⟨hi, hb, h.keep.trans hk (.inl rfl)⟩
theorem CW.set (h : CW w0 w g st W) {b : Nat} (hb : w.heap.size ≤ b) (hw : w0.heap.size ≤ w.heap.size) (hne : g ≠ b) (j : Nat) (u : Value) : CW w0 w g st (W.setCell ⟨b, j, none⟩ u) :=
  ⟨h.st.far hne u, h.below.trans ⟨rfl, rfl, rfl, by simp, fun k hk => heap_setCell_other _ _ _ _ (by show k ≠ b; omega)⟩, Nat.le_trans h.keep.1 (by simp), fun i hi h1 h2 => (heap_setCell_other _ _ _ _ (by show i ≠ b; omega)).trans (h.keep.2 i hi h1 h2)⟩
theorem CW.set5 (h : CW w0 w g st W) {b : Nat} (hb : w.heap.size ≤ b) (hw : w0.heap.size ≤ w.heap.size) (hne : g ≠ b) (u0 u1 u2 u3 u4 : Value) : CW w0 w g st (((((W.setCell ⟨b, 0, none⟩ u0).setCell ⟨b, 1, none⟩ u1).setCell ⟨b, 2, none⟩ u2).setCell ⟨b, 3, none⟩ u3).setCell ⟨b, 4, none⟩ u4) :=
  ((((h.set hb hw hne 0 u0).set hb hw hne 1 u1).set hb hw hne 2 u2).set hb hw hne 3 u3).set hb hw hne 4 u4
theorem own_ge {B e sz m : Nat} {u : Value} {xs : List Value} (h : W.ownsRow B e sz u m xs) (b : Nat) (hb : u.ownBlock = some b) : B ≤ b := by
  rcases h.2 with ⟨rfl, _⟩ | ⟨g', cap, cur, rfl, h1, _⟩
  · cases hb
  · obtain rfl := Option.some.inj hb; exact h1
theorem cwN (n : Nat) (h : n ≤ 1000000000) : wrap64 (n : Int) = (n : Int) := by unfold wrap64; omega
theorem cwA (a b c : Nat) (h : a + b = c) (hc : c ≤ 1000000000) : wrap64 ((a : Int) + (b : Int)) = (c : Int) := by rw [← Int.natCast_add, h]; exact cwN c hc
theorem cw1 (a : Nat) (h : a ≤ 1000000) : wrap64 ((a : Int) + 1) = ((a + 1 : Nat) : Int) := by unfold wrap64; omega
theorem cwM (a b c : Nat) (h : a * b = c) (hc : c ≤ 1000000000) : wrap64 ((a : Int) * (b : Int)) = (c : Int) := by rw [← Int.natCast_mul, h]; exact cwN c hc
theorem put5 {b T : Nat} {x0 x1 x2 x3 x4 : Value} (h : W.heap[b]? = some (.cells #[x0, x1, x2, x3, x4] T (0, 0))) (u0 u1 u2 u3 u4 : Value) :
    (((((W.setCell ⟨b, 0, none⟩ u0).setCell ⟨b, 1, none⟩ u1).setCell ⟨b, 2, none⟩ u2).setCell ⟨b, 3, none⟩ u3).setCell ⟨b, 4, none⟩ u4).heap[b]? = some (.cells #[u0, u1, u2, u3, u4] T (0, 0)) :=
  blk_put (blk_put (blk_put (blk_put (blk_put h 0 _ rfl) 1 _ rfl) 2 _ rfl) 3 _ rfl) 4 _ rfl
end
def rre_next.f (k : Nat) (st : CSt) (a0_0 : Int) (a0_1 : Int) (a0_2 : Bool) (a0_3 : Bool) (a0_4 : Int) (a0_5 : Int) (a0_6 : Int) (a0_7 : Int) (a0_8 : Int) (a0_9 : Int) : Option ((S31 × Int) × CSt) := (format_Size.f a0_0 a0_1 a0_2 a0_3 a0_4 a0_5 a0_6 a0_7 a0_8 a0_9).bind fun z => (octets_Cursor_Bytes.f st.1 st.2.1 st.2.2 z).bind fun b0 => (octets_Cursor_Int.f b0.2.1 b0.2.2.1 b0.2.2.2 2).bind fun b1 => (octets_Cursor_Int.f b1.2.1 b1.2.2.1 b1.2.2.2 2).bind fun b2 => (octets_Cursor_Int.f b2.2.1 b2.2.2.1 b2.2.2.2 2).bind fun b3 => (octets_Cursor_Int.f b3.2.1 b3.2.2.1 b3.2.2.2 2).bind fun b4 =>
  if b4.2.2.2 = 0 then (format_Get.f k a0_0 a0_1 a0_2 a0_3 a0_4 a0_5 a0_6 a0_7 a0_8 a0_9 b0.1).bind fun gt => some ((⟨gt.1, ⟨b1.1, b2.1, b3.1, b4.1⟩⟩, 0), b4.2) else some ((z31, b4.2.2.2), b4.2)
theorem rre_next.mono (k : Nat) (st : CSt) (a0_0 : Int) (a0_1 : Int) (a0_2 : Bool) (a0_3 : Bool) (a0_4 : Int) (a0_5 : Int) (a0_6 : Int) (a0_7 : Int) (a0_8 : Int) (a0_9 : Int) : LeO (rre_next.f k st a0_0 a0_1 a0_2 a0_3 a0_4 a0_5 a0_6 a0_7 a0_8 a0_9) (rre_next.f (k + 1) st a0_0 a0_1 a0_2 a0_3 a0_4 a0_5 a0_6 a0_7 a0_8 a0_9) := by
  unfold rre_next.f
  exact LeO.bind (LeO.refl _) fun _ => LeO.bind (LeO.refl _) fun _ => LeO.bind (LeO.refl _) fun _ => LeO.bind (LeO.refl _) fun _ => LeO.bind (LeO.refl _) fun _ => LeO.bind (LeO.refl _) fun _ => LeO.ite (LeO.bind (format_Get.mono _ _ _ _ _ _ _ _ _ _ _ _) fun _ => LeO.refl _) (LeO.refl _)
set_option maxHeartbeats 8000000 in
set_option maxRecDepth 100000 in
theorem rre_next.calls (k : Nat) (g : Nat) (st st' : CSt) (a0_0 : Int) (a0_1 : Int) (a0_2 : Bool) (a0_3 : Bool) (a0_4 : Int) (a0_5 : Int) (a0_6 : Int) (a0_7 : Int) (a0_8 : Int) (a0_9 : Int) (pc : S31) (er : Int) (w0 w : World) (hw0 : w0.heap.size ≤ w.heap.size) (hI : IsS96 w0 w g st.1 st.2.1 st.2.2) (hB : Below w0.heap.size w0 w) (h : rre_next.f k st a0_0 a0_1 a0_2 a0_3 a0_4 a0_5 a0_6 a0_7 a0_8 a0_9 = some ((pc, er), st')) :
    Calls Try.prog 68 #[.pointer (some ⟨g, 0, none⟩), .agg #[.int .i64 a0_0, .int .i64 a0_1, .bool a0_2, .bool a0_3, .int .i64 a0_4, .int .i64 a0_5, .int .i64 a0_6, .int .i64 a0_7, .int .i64 a0_8, .int .i64 a0_9]] w fun e w' => e = .returned (.tuple #[.agg #[.int .i64 pc.f0, .int .i64 pc.f1.f0, .int .i64 pc.f1.f1, .int .i64 pc.f1.f2, .int .i64 pc.f1.f3], .int .i64 er]) ∧ CW w0 w g st' w' := by
  unfold rre_next.f at h
  obtain ⟨z, hz, h⟩ := Option.bind_eq_some_iff.1 h
  obtain ⟨⟨v0, t0⟩, h0, h⟩ := Option.bind_eq_some_iff.1 h
  obtain ⟨⟨v1, t1⟩, h1, h⟩ := Option.bind_eq_some_iff.1 h
  obtain ⟨⟨v2, t2⟩, h2, h⟩ := Option.bind_eq_some_iff.1 h
  obtain ⟨⟨v3, t3⟩, h3, h⟩ := Option.bind_eq_some_iff.1 h
  obtain ⟨⟨v4, t4⟩, h4, h⟩ := Option.bind_eq_some_iff.1 h
  have hg := hI.lt
  have C0 := Lib.hid ((CW.start hI hB).step (below_alloc (below_alloc (Below.refl _ _) (.cells #[.int .i64 a0_0, .int .i64 a0_1, .bool a0_2, .bool a0_3, .int .i64 a0_4, .int .i64 a0_5, .int .i64 a0_6, .int .i64 a0_7, .int .i64 a0_8, .int .i64 a0_9] 37)) (.cells #[.int .i64 0, .int .i64 0, .int .i64 0, .int .i64 0, .int .i64 0] 31)))
  have K0 := Lib.hid ((Below.heap_alloc _ (.cells #[.int .i64 0, .int .i64 0, .int .i64 0, .int .i64 0, .int .i64 0] 31) _ (by simp)).trans (heap_alloc_new w (.cells #[.int .i64 a0_0, .int .i64 a0_1, .bool a0_2, .bool a0_3, .int .i64 a0_4, .int .i64 a0_5, .int .i64 a0_6, .int .i64 a0_7, .int .i64 a0_8, .int .i64 a0_9] 37)))
  have R0 := Lib.hid (show ((w.alloc (.cells #[.int .i64 a0_0, .int .i64 a0_1, .bool a0_2, .bool a0_3, .int .i64 a0_4, .int .i64 a0_5, .int .i64 a0_6, .int .i64 a0_7, .int .i64 a0_8, .int .i64 a0_9] 37)).alloc (.cells #[.int .i64 0, .int .i64 0, .int .i64 0, .int .i64 0, .int .i64 0] 31)).heap[w.heap.size + 1]? = some (.cells #[.int .i64 0, .int .i64 0, .int .i64 0, .int .i64 0, .int .i64 0] 31 (0, 0)) by have h9 := heap_alloc_new (w.alloc (.cells #[.int .i64 a0_0, .int .i64 a0_1, .bool a0_2, .bool a0_3, .int .i64 a0_4, .int .i64 a0_5, .int .i64 a0_6, .int .i64 a0_7, .int .i64 a0_8, .int .i64 a0_9] 37)) (.cells #[.int .i64 0, .int .i64 0, .int .i64 0, .int .i64 0, .int .i64 0] 31); rw [World.size_alloc] at h9; exact h9)
  have Z0 := Lib.hid (show w.heap.size + 1 < ((w.alloc (.cells #[.int .i64 a0_0, .int .i64 a0_1, .bool a0_2, .bool a0_3, .int .i64 a0_4, .int .i64 a0_5, .int .i64 a0_6, .int .i64 a0_7, .int .i64 a0_8, .int .i64 a0_9] 37)).alloc (.cells #[.int .i64 0, .int .i64 0, .int .i64 0, .int .i64 0, .int .i64 0] 31)).heap.size by simp)
  have NG0 := Lib.hid (show w.heap.size ≠ g by omega); have NG1 := Lib.hid (show w.heap.size + 1 ≠ g by omega); have NG2 := Lib.hid (show g ≠ w.heap.size + 1 by omega); have HW := Lib.hid hw0
  have Hz := Lib.hid hz; have H0 := Lib.hid h0; have H1 := Lib.hid h1; have H2 := Lib.hid h2; have H3 := Lib.hid h3; have H4 := Lib.hid h4; have H := Lib.hid h
  clear hz h h0 h1 h2 h3 h4 hI hB hg hw0
  go_enter Try.func68, Try.ntmps68
  go_wp2_with fail
  refine (format_Size.calls a0_0 a0_1 a0_2 a0_3 a0_4 a0_5 a0_6 a0_7 a0_8 a0_9 z _ Hz.out).mono ?_; rintro e y1 ⟨rfl, hb⟩
  have C1 := Lib.hid (C0.out.step hb); have K1 := Lib.hid ((hb.block _ (Nat.lt_trans (Nat.lt_succ_self _) Z0.out)).trans K0.out); have R1 := Lib.hid ((hb.block _ Z0.out).trans R0.out); clear hb C0 K0 R0
  go_wp2_with fail
  refine (octets_Cursor_Bytes.calls g st.1 st.2.1 st.2.2 z v0 t0.1 t0.2.1 t0.2.2 w0 _ C1.out.st C1.out.below H0.out).mono ?_; rintro e y2 ⟨rfl, hi, hb, hk⟩
  have C2 := Lib.hid (C1.out.call (st' := t0) hi hb hk); have K2 := Lib.hid (hk.blk K1.out NG0.out (by simp)); have R2 := Lib.hid (hk.blk R1.out NG1.out (by simp)); clear hi hb hk C1 K1 R1
  go_wp2_with fail
  refine (octets_Cursor_Int.calls g t0.1 t0.2.1 t0.2.2 2 v1 t1.1 t1.2.1 t1.2.2 w0 _ C2.out.st C2.out.below H1.out).mono ?_; rintro e y3 ⟨rfl, hi, hb, hk⟩
  have C3 := Lib.hid (C2.out.call (st' := t1) hi hb hk); have K3 := Lib.hid (hk.blk K2.out NG0.out (by simp)); have R3 := Lib.hid (hk.blk R2.out NG1.out (by simp)); clear hi hb hk C2 K2 R2
  go_wp2_with fail
  refine (octets_Cursor_Int.calls g t1.1 t1.2.1 t1.2.2 2 v2 t2.1 t2.2.1 t2.2.2 w0 _ C3.out.st C3.out.below H2.out).mono ?_; rintro e y4 ⟨rfl, hi, hb, hk⟩
  have C4 := Lib.hid (C3.out.call (st' := t2) hi hb hk); have K4 := Lib.hid (hk.blk K3.out NG0.out (by simp)); have R4 := Lib.hid (hk.blk R3.out NG1.out (by simp)); clear hi hb hk C3 K3 R3
  go_wp2_with fail
  refine (octets_Cursor_Int.calls g t2.1 t2.2.1 t2.2.2 2 v3 t3.1 t3.2.1 t3.2.2 w0 _ C4.out.st C4.out.below H3.out).mono ?_; rintro e y5 ⟨rfl, hi, hb, hk⟩
  have C5 := Lib.hid (C4.out.call (st' := t3) hi hb hk); have K5 := Lib.hid (hk.blk K4.out NG0.out (by simp)); have R5 := Lib.hid (hk.blk R4.out NG1.out (by simp)); clear hi hb hk C4 K4 R4
  go_wp2_with fail
  refine (octets_Cursor_Int.calls g t3.1 t3.2.1 t3.2.2 2 v4 t4.1 t4.2.1 t4.2.2 w0 _ C5.out.st C5.out.below H4.out).mono ?_; rintro e y6 ⟨rfl, hi, hb, hk⟩
  have C6 := Lib.hid (C5.out.call (st' := t4) hi hb hk); have K6 := Lib.hid (hk.blk K5.out NG0.out (by simp)); have R6 := Lib.hid (hk.blk R5.out NG1.out (by simp)); clear hi hb hk C5 K5 R5
  go_wp2_with fail
  have C7 := Lib.hid (C6.out.step (below_alloc (Below.refl _ _) (.cells #[.int .i64 v1, .int .i64 v2, .int .i64 v3, .int .i64 v4] 29))); have X7 := Lib.hid (heap_alloc_new y6 (.cells #[.int .i64 v1, .int .i64 v2, .int .i64 v3, .int .i64 v4] 29)); have K7 := Lib.hid ((Below.heap_alloc y6 (.cells #[.int .i64 v1, .int .i64 v2, .int .i64 v3, .int .i64 v4] 29) _ (blk_lt K6.out)).trans K6.out); have R7 := Lib.hid ((Below.heap_alloc y6 (.cells #[.int .i64 v1, .int .i64 v2, .int .i64 v3, .int .i64 v4] 29) _ (blk_lt R6.out)).trans R6.out); have NX := Lib.hid (show y6.heap.size ≠ g from Nat.ne_of_gt C6.out.st.lt); clear C6 K6 R6
  refine (octets_Cursor_Err.calls g t4.1 t4.2.1 t4.2.2 t4.2.2 t4.1 t4.2.1 t4.2.2 w0 _ C7.out.st C7.out.below rfl).mono ?_; rintro e y8 ⟨rfl, hi, hb, hk⟩
  have C8 := Lib.hid (C7.out.call (st' := t4) hi hb hk); have K8 := Lib.hid (hk.blk K7.out NG0.out (by simp)); have R8 := Lib.hid (hk.blk R7.out NG1.out (by simp)); have X8 := Lib.hid (hk.blk X7.out NX.out (by simp)); clear hi hb hk C7 K7 R7 X7
  have h9 := H.out; clear H
  by_cases he : t4.2.2 = 0
  · rw [if_pos he] at h9
    obtain ⟨gt, hgt, h9⟩ := Option.bind_eq_some_iff.1 h9
    obtain ⟨⟨rfl, rfl⟩, rfl⟩ : ((⟨gt.1, ⟨v1, v2, v3, v4⟩⟩ : S31) = pc ∧ (0 : Int) = er) ∧ t4 = st' := by have h8 := Option.some.inj h9; exact ⟨⟨congrArg (fun x => x.1.1) h8, congrArg (fun x => x.1.2) h8⟩, congrArg (fun x => x.2) h8⟩
    have HE := Lib.hid he
    have e1 : (t4.2.2 != 0) = false := by simpa using he
    have HGT := Lib.hid hgt; clear he hgt h9
    have q0 := (blk_cell K8.out 0).trans rfl; have q1 := (blk_cell K8.out 1).trans rfl; have q2 := (blk_cell K8.out 2).trans rfl; have q3 := (blk_cell K8.out 3).trans rfl; have q4 := (blk_cell K8.out 4).trans rfl; have q5 := (blk_cell K8.out 5).trans rfl; have q6 := (blk_cell K8.out 6).trans rfl; have q7 := (blk_cell K8.out 7).trans rfl; have q8 := (blk_cell K8.out 8).trans rfl; have q9 := (blk_cell K8.out 9).trans rfl
    go_wp2_with fail
    clear q0 q1 q2 q3 q4 q5 q6 q7 q8 q9
    clear e1
    refine (format_Get.calls k a0_0 a0_1 a0_2 a0_3 a0_4 a0_5 a0_6 a0_7 a0_8 a0_9 v0 gt.1 gt.2 _ HGT.out).mono ?_; rintro e y9 ⟨rfl, hb⟩
    have C9 := Lib.hid (C8.out.step hb); have R9 := Lib.hid ((hb.block _ (blk_lt R8.out)).trans R8.out); have X9 := Lib.hid ((hb.block _ (blk_lt X8.out)).trans X8.out); clear hb C8 K8 R8 X8
    have q0 := (blk_cell X9.out 0).trans rfl; have r0 := (blk_cell R9.out 0).trans rfl; have f0 := blk_frozen R9.out 0; have q1 := (blk_cell X9.out 1).trans rfl; have r1 := (blk_cell R9.out 1).trans rfl; have f1 := blk_frozen R9.out 1; have q2 := (blk_cell X9.out 2).trans rfl; have r2 := (blk_cell R9.out 2).trans rfl; have f2 := blk_frozen R9.out 2; have q3 := (blk_cell X9.out 3).trans rfl; have r3 := (blk_cell R9.out 3).trans rfl; have f3 := blk_frozen R9.out 3; have r4 := (blk_cell R9.out 4).trans rfl; have f4 := blk_frozen R9.out 4
    go_wp2_with fail
    refine bodyPost_ret (results_ct rfl _ _ (w.heap.size + 1) 31 #[.int .i64 gt.1, .int .i64 v1, .int .i64 v2, .int .i64 v3, .int .i64 v4] (0, 0) _ rfl (by exact put5 R9.out _ _ _ _ _) Try.underlying31 rfl (by kernel_rfl)) rfl ?_
    exact ⟨rfl, C9.out.set5 (Nat.le_succ _) HW.out NG2.out _ _ _ _ _⟩
  · rw [if_neg he] at h9
    obtain ⟨⟨rfl, rfl⟩, rfl⟩ : ((z31 : S31) = pc ∧ t4.2.2 = er) ∧ t4 = st' := by have h8 := Option.some.inj h9; exact ⟨⟨congrArg (fun x => x.1.1) h8, congrArg (fun x => x.1.2) h8⟩, congrArg (fun x => x.2) h8⟩
    have e1 : (t4.2.2 != 0) = true := by simpa using he
    clear he h9
    have r0 := (blk_cell R8.out 0).trans rfl; have f0 := blk_frozen R8.out 0; have r1 := (blk_cell R8.out 1).trans rfl; have f1 := blk_frozen R8.out 1; have r2 := (blk_cell R8.out 2).trans rfl; have f2 := blk_frozen R8.out 2; have r3 := (blk_cell R8.out 3).trans rfl; have f3 := blk_frozen R8.out 3; have r4 := (blk_cell R8.out 4).trans rfl; have f4 := blk_frozen R8.out 4
    go_wp2_with fail
    refine bodyPost_ret (results_ct rfl _ _ (w.heap.size + 1) 31 #[.int .i64 0, .int .i64 0, .int .i64 0, .int .i64 0, .int .i64 0] (0, 0) _ rfl (by exact put5 R8.out _ _ _ _ _) Try.underlying31 rfl (by kernel_rfl)) rfl ?_
    exact ⟨rfl, C8.out.set5 (Nat.le_succ _) HW.out NG2.out _ _ _ _ _⟩

end Go.Proofs.Ytkmfhfejogjnfaa.X
