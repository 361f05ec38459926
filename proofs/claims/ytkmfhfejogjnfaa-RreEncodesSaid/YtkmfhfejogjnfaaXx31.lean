/- What each Go function that these laws use answers: as a Lean function, with the proof that the machine's call comes to it. Written by a program of this session (xprint.py). -/
import Derived.Test.YtkmfhfejogjnfaaXx0
import Derived.Test.YtkmfhfejogjnfaaXx30
namespace Go.Proofs.Ytkmfhfejogjnfaa.X
open Go.RowKit Go.Proofs.YtkmfhfejogjnfaaW.PrintWords Go.Proofs.YtkmfhfejogjnfaaW.PrintLast Go.Proofs.YtkmfhfejogjnfaaW.PrintMore
attribute [local go_sem] max2_int min2_int max_two min_two max_three min_three max_four min_four   -- for this text's walks alone
set_option linter.unusedVariables false
set_option linter.unusedSimpArgs false

/-! ### miradorref17_Pieces: function 11 -/
mutual
def miradorref17_Pieces.j0 : Nat → Int → Int → List Int → Int → Bool → Option ((List (S33)))
  | 0, _, _, _, _, _ => none
  | k + 1, x0, x1, x2, x3, x37 => if x37 = true then (some ([] : List (S33))) else (miradorref17_Pieces.l0 k x0 x1 x2 x3 ([] : List (S33)) 0)
def miradorref17_Pieces.l0 : Nat → Int → Int → List Int → Int → List (S33) → Int → Option ((List (S33)))
  | 0, _, _, _, _, _, _ => none
  | k + 1, x0, x1, x2, x3, x9, x10 => if x10 < x1 then (miradorref17_Pieces.l1 k x0 x1 x2 x3 x9 x10 0) else (some x9)
def miradorref17_Pieces.l1 : Nat → Int → Int → List Int → Int → List (S33) → Int → Int → Option ((List (S33)))
  | 0, _, _, _, _, _, _, _ => none
  | k + 1, x0, x1, x2, x3, x9, x10, x11 => if x11 < x0 then (if 0 ≤ (wrap64 ((wrap64 (x10 * x0)) + x11)) then (if (wrap64 ((wrap64 (x10 * x0)) + x11)) < (x2.length : Int) then ((miradorref17_free.f k x0 x2 x9 (rd x2 (wrap64 ((wrap64 (x10 * x0)) + x11))) x11 x10 1).bind fun t199 => (if (rd x2 (wrap64 ((wrap64 (x10 * x0)) + x11))) = x3 then (miradorref17_Pieces.j3 k x0 x1 x2 x3 x9 x10 x11 (rd x2 (wrap64 ((wrap64 (x10 * x0)) + x11))) true) else (miradorref17_Pieces.j3 k x0 x1 x2 x3 x9 x10 x11 (rd x2 (wrap64 ((wrap64 (x10 * x0)) + x11))) (!t199)))) else (none)) else (none)) else (miradorref17_Pieces.l0 k x0 x1 x2 x3 x9 (wrap64 (x10 + 1)))
def miradorref17_Pieces.j3 : Nat → Int → Int → List Int → Int → List (S33) → Int → Int → Int → Bool → Option ((List (S33)))
  | 0, _, _, _, _, _, _, _, _, _ => none
  | k + 1, x0, x1, x2, x3, x9, x10, x11, x12, x69 => if x69 = true then (miradorref17_Pieces.l1 k x0 x1 x2 x3 x9 x10 (wrap64 (x11 + 1))) else (miradorref17_Pieces.l2 k x0 x1 x2 x3 x9 x10 x11 x12 1)
def miradorref17_Pieces.j5 : Nat → Int → Int → List Int → Int → List (S33) → Int → Int → Int → Int → Option ((List (S33)))
  | 0, _, _, _, _, _, _, _, _, _ => none
  | k + 1, x0, x1, x2, x3, x9, x10, x11, x12, x14 => miradorref17_Pieces.l3 k x0 x1 x2 x3 x9 x10 x11 x12 x14 1
def miradorref17_Pieces.l3 : Nat → Int → Int → List Int → Int → List (S33) → Int → Int → Int → Int → Int → Option ((List (S33)))
  | 0, _, _, _, _, _, _, _, _, _, _ => none
  | k + 1, x0, x1, x2, x3, x9, x10, x11, x12, x14, x15 => if (wrap64 (x10 + x15)) < x1 then ((miradorref17_free.f k x0 x2 x9 x12 x11 (wrap64 (x10 + x15)) x14).bind fun t201 => (if t201 = true then (miradorref17_Pieces.l3 k x0 x1 x2 x3 x9 x10 x11 x12 x14 (wrap64 (x15 + 1))) else (if x9.length < 3518437208883 then (miradorref17_Pieces.l1 k x0 x1 x2 x3 (x9 ++ [(⟨x12, (⟨x11, x10, x14, x15⟩ : S29)⟩ : S33)]) x10 (wrap64 (x11 + 1))) else (none)))) else (if x9.length < 3518437208883 then (miradorref17_Pieces.l1 k x0 x1 x2 x3 (x9 ++ [(⟨x12, (⟨x11, x10, x14, x15⟩ : S29)⟩ : S33)]) x10 (wrap64 (x11 + 1))) else (none))
def miradorref17_Pieces.l2 : Nat → Int → Int → List Int → Int → List (S33) → Int → Int → Int → Int → Option ((List (S33)))
  | 0, _, _, _, _, _, _, _, _, _ => none
  | k + 1, x0, x1, x2, x3, x9, x10, x11, x12, x14 => if (wrap64 (x11 + x14)) < x0 then ((miradorref17_free.f k x0 x2 x9 x12 (wrap64 (x11 + x14)) x10 1).bind fun t200 => (if t200 = true then (miradorref17_Pieces.l2 k x0 x1 x2 x3 x9 x10 x11 x12 (wrap64 (x14 + 1))) else (miradorref17_Pieces.j5 k x0 x1 x2 x3 x9 x10 x11 x12 x14))) else (miradorref17_Pieces.j5 k x0 x1 x2 x3 x9 x10 x11 x12 x14)
end
def miradorref17_Pieces.f (k : Nat) (a0 : Int) (a1 : Int) (l2 : List Int) (a3 : Int) : Option ((List (S33))) := if a0 < 0 then (miradorref17_Pieces.j0 k a0 a1 l2 a3 true) else (if a1 < 0 then (miradorref17_Pieces.j0 k a0 a1 l2 a3 true) else (if a0 > 4096 then (miradorref17_Pieces.j0 k a0 a1 l2 a3 true) else (if a1 > 4096 then (miradorref17_Pieces.j0 k a0 a1 l2 a3 true) else (miradorref17_Pieces.j0 k a0 a1 l2 a3 ((l2.length : Int) != (wrap64 (a0 * a1)))))))
theorem miradorref17_Pieces.mono_l : ∀ k, (∀ y0 y1 y2 y3 y4, LeO (miradorref17_Pieces.j0 k y0 y1 y2 y3 y4) (miradorref17_Pieces.j0 (k + 1) y0 y1 y2 y3 y4)) ∧ (∀ y0 y1 y2 y3 y4 y5, LeO (miradorref17_Pieces.l0 k y0 y1 y2 y3 y4 y5) (miradorref17_Pieces.l0 (k + 1) y0 y1 y2 y3 y4 y5)) ∧ (∀ y0 y1 y2 y3 y4 y5 y6, LeO (miradorref17_Pieces.l1 k y0 y1 y2 y3 y4 y5 y6) (miradorref17_Pieces.l1 (k + 1) y0 y1 y2 y3 y4 y5 y6)) ∧ (∀ y0 y1 y2 y3 y4 y5 y6 y7 y8, LeO (miradorref17_Pieces.j3 k y0 y1 y2 y3 y4 y5 y6 y7 y8) (miradorref17_Pieces.j3 (k + 1) y0 y1 y2 y3 y4 y5 y6 y7 y8)) ∧ (∀ y0 y1 y2 y3 y4 y5 y6 y7 y8, LeO (miradorref17_Pieces.j5 k y0 y1 y2 y3 y4 y5 y6 y7 y8) (miradorref17_Pieces.j5 (k + 1) y0 y1 y2 y3 y4 y5 y6 y7 y8)) ∧ (∀ y0 y1 y2 y3 y4 y5 y6 y7 y8 y9, LeO (miradorref17_Pieces.l3 k y0 y1 y2 y3 y4 y5 y6 y7 y8 y9) (miradorref17_Pieces.l3 (k + 1) y0 y1 y2 y3 y4 y5 y6 y7 y8 y9)) ∧ (∀ y0 y1 y2 y3 y4 y5 y6 y7 y8, LeO (miradorref17_Pieces.l2 k y0 y1 y2 y3 y4 y5 y6 y7 y8) (miradorref17_Pieces.l2 (k + 1) y0 y1 y2 y3 y4 y5 y6 y7 y8))
  | 0 => ⟨fun _ _ _ _ _ r h => by simp [miradorref17_Pieces.j0] at h, fun _ _ _ _ _ _ r h => by simp [miradorref17_Pieces.l0] at h, fun _ _ _ _ _ _ _ r h => by simp [miradorref17_Pieces.l1] at h, fun _ _ _ _ _ _ _ _ _ r h => by simp [miradorref17_Pieces.j3] at h, fun _ _ _ _ _ _ _ _ _ r h => by simp [miradorref17_Pieces.j5] at h, fun _ _ _ _ _ _ _ _ _ _ r h => by simp [miradorref17_Pieces.l3] at h, fun _ _ _ _ _ _ _ _ _ r h => by simp [miradorref17_Pieces.l2] at h⟩
  | k + 1 => by
    obtain ⟨ih0, ih1, ih2, ih3, ih4, ih5, ih6⟩ := miradorref17_Pieces.mono_l k
    refine ⟨?_, ?_, ?_, ?_, ?_, ?_, ?_⟩
    · intro y0 y1 y2 y3 y4
      unfold miradorref17_Pieces.j0
      repeat' first
      | (with_reducible exact ih0 _ _ _ _ _)
      | (with_reducible exact ih1 _ _ _ _ _ _)
      | (with_reducible exact ih2 _ _ _ _ _ _ _)
      | (with_reducible exact ih3 _ _ _ _ _ _ _ _ _)
      | (with_reducible exact ih4 _ _ _ _ _ _ _ _ _)
      | (with_reducible exact ih5 _ _ _ _ _ _ _ _ _ _)
      | (with_reducible exact ih6 _ _ _ _ _ _ _ _ _)
      | (with_reducible exact miradorref17_free.mono _ _ _ _ _ _ _ _)
      | (with_reducible exact LeO.refl _)
      | (with_reducible exact LeO.none _)
      | (with_reducible refine LeO.ite ?_ ?_)
      | (with_reducible refine LeO.bind ?_ (fun _ => ?_))
      | exact ih0 _ _ _ _ _
      | exact ih1 _ _ _ _ _ _
      | exact ih2 _ _ _ _ _ _ _
      | exact ih3 _ _ _ _ _ _ _ _ _
      | exact ih4 _ _ _ _ _ _ _ _ _
      | exact ih5 _ _ _ _ _ _ _ _ _ _
      | exact ih6 _ _ _ _ _ _ _ _ _
      | exact miradorref17_free.mono _ _ _ _ _ _ _ _
      | exact LeO.none _
      | refine LeO.ite ?_ ?_
      | refine LeO.bind ?_ (fun _ => ?_)
    · intro y0 y1 y2 y3 y4 y5
      unfold miradorref17_Pieces.l0
      repeat' first
      | (with_reducible exact ih0 _ _ _ _ _)
      | (with_reducible exact ih1 _ _ _ _ _ _)
      | (with_reducible exact ih2 _ _ _ _ _ _ _)
      | (with_reducible exact ih3 _ _ _ _ _ _ _ _ _)
      | (with_reducible exact ih4 _ _ _ _ _ _ _ _ _)
      | (with_reducible exact ih5 _ _ _ _ _ _ _ _ _ _)
      | (with_reducible exact ih6 _ _ _ _ _ _ _ _ _)
      | (with_reducible exact miradorref17_free.mono _ _ _ _ _ _ _ _)
      | (with_reducible exact LeO.refl _)
      | (with_reducible exact LeO.none _)
      | (with_reducible refine LeO.ite ?_ ?_)
      | (with_reducible refine LeO.bind ?_ (fun _ => ?_))
      | exact ih0 _ _ _ _ _
      | exact ih1 _ _ _ _ _ _
      | exact ih2 _ _ _ _ _ _ _
      | exact ih3 _ _ _ _ _ _ _ _ _
      | exact ih4 _ _ _ _ _ _ _ _ _
      | exact ih5 _ _ _ _ _ _ _ _ _ _
      | exact ih6 _ _ _ _ _ _ _ _ _
      | exact miradorref17_free.mono _ _ _ _ _ _ _ _
      | exact LeO.none _
      | refine LeO.ite ?_ ?_
      | refine LeO.bind ?_ (fun _ => ?_)
    · intro y0 y1 y2 y3 y4 y5 y6
      unfold miradorref17_Pieces.l1
      repeat' first
      | (with_reducible exact ih0 _ _ _ _ _)
      | (with_reducible exact ih1 _ _ _ _ _ _)
      | (with_reducible exact ih2 _ _ _ _ _ _ _)
      | (with_reducible exact ih3 _ _ _ _ _ _ _ _ _)
      | (with_reducible exact ih4 _ _ _ _ _ _ _ _ _)
      | (with_reducible exact ih5 _ _ _ _ _ _ _ _ _ _)
      | (with_reducible exact ih6 _ _ _ _ _ _ _ _ _)
      | (with_reducible exact miradorref17_free.mono _ _ _ _ _ _ _ _)
      | (with_reducible exact LeO.refl _)
      | (with_reducible exact LeO.none _)
      | (with_reducible refine LeO.ite ?_ ?_)
      | (with_reducible refine LeO.bind ?_ (fun _ => ?_))
      | exact ih0 _ _ _ _ _
      | exact ih1 _ _ _ _ _ _
      | exact ih2 _ _ _ _ _ _ _
      | exact ih3 _ _ _ _ _ _ _ _ _
      | exact ih4 _ _ _ _ _ _ _ _ _
      | exact ih5 _ _ _ _ _ _ _ _ _ _
      | exact ih6 _ _ _ _ _ _ _ _ _
      | exact miradorref17_free.mono _ _ _ _ _ _ _ _
      | exact LeO.none _
      | refine LeO.ite ?_ ?_
      | refine LeO.bind ?_ (fun _ => ?_)
    · intro y0 y1 y2 y3 y4 y5 y6 y7 y8
      unfold miradorref17_Pieces.j3
      repeat' first
      | (with_reducible exact ih0 _ _ _ _ _)
      | (with_reducible exact ih1 _ _ _ _ _ _)
      | (with_reducible exact ih2 _ _ _ _ _ _ _)
      | (with_reducible exact ih3 _ _ _ _ _ _ _ _ _)
      | (with_reducible exact ih4 _ _ _ _ _ _ _ _ _)
      | (with_reducible exact ih5 _ _ _ _ _ _ _ _ _ _)
      | (with_reducible exact ih6 _ _ _ _ _ _ _ _ _)
      | (with_reducible exact miradorref17_free.mono _ _ _ _ _ _ _ _)
      | (with_reducible exact LeO.refl _)
      | (with_reducible exact LeO.none _)
      | (with_reducible refine LeO.ite ?_ ?_)
      | (with_reducible refine LeO.bind ?_ (fun _ => ?_))
      | exact ih0 _ _ _ _ _
      | exact ih1 _ _ _ _ _ _
      | exact ih2 _ _ _ _ _ _ _
      | exact ih3 _ _ _ _ _ _ _ _ _
      | exact ih4 _ _ _ _ _ _ _ _ _
      | exact ih5 _ _ _ _ _ _ _ _ _ _
      | exact ih6 _ _ _ _ _ _ _ _ _
      | exact miradorref17_free.mono _ _ _ _ _ _ _ _
      | exact LeO.none _
      | refine LeO.ite ?_ ?_
      | refine LeO.bind ?_ (fun _ => ?_)
    · intro y0 y1 y2 y3 y4 y5 y6 y7 y8
      unfold miradorref17_Pieces.j5
      repeat' first
      | (with_reducible exact ih0 _ _ _ _ _)
      | (with_reducible exact ih1 _ _ _ _ _ _)
      | (with_reducible exact ih2 _ _ _ _ _ _ _)
      | (with_reducible exact ih3 _ _ _ _ _ _ _ _ _)
      | (with_reducible exact ih4 _ _ _ _ _ _ _ _ _)
      | (with_reducible exact ih5 _ _ _ _ _ _ _ _ _ _)
      | (with_reducible exact ih6 _ _ _ _ _ _ _ _ _)
      | (with_reducible exact miradorref17_free.mono _ _ _ _ _ _ _ _)
      | (with_reducible exact LeO.refl _)
      | (with_reducible exact LeO.none _)
      | (with_reducible refine LeO.ite ?_ ?_)
      | (with_reducible refine LeO.bind ?_ (fun _ => ?_))
      | exact ih0 _ _ _ _ _
      | exact ih1 _ _ _ _ _ _
      | exact ih2 _ _ _ _ _ _ _
      | exact ih3 _ _ _ _ _ _ _ _ _
      | exact ih4 _ _ _ _ _ _ _ _ _
      | exact ih5 _ _ _ _ _ _ _ _ _ _
      | exact ih6 _ _ _ _ _ _ _ _ _
      | exact miradorref17_free.mono _ _ _ _ _ _ _ _
      | exact LeO.none _
      | refine LeO.ite ?_ ?_
      | refine LeO.bind ?_ (fun _ => ?_)
    · intro y0 y1 y2 y3 y4 y5 y6 y7 y8 y9
      unfold miradorref17_Pieces.l3
      repeat' first
      | (with_reducible exact ih0 _ _ _ _ _)
      | (with_reducible exact ih1 _ _ _ _ _ _)
      | (with_reducible exact ih2 _ _ _ _ _ _ _)
      | (with_reducible exact ih3 _ _ _ _ _ _ _ _ _)
      | (with_reducible exact ih4 _ _ _ _ _ _ _ _ _)
      | (with_reducible exact ih5 _ _ _ _ _ _ _ _ _ _)
      | (with_reducible exact ih6 _ _ _ _ _ _ _ _ _)
      | (with_reducible exact miradorref17_free.mono _ _ _ _ _ _ _ _)
      | (with_reducible exact LeO.refl _)
      | (with_reducible exact LeO.none _)
      | (with_reducible refine LeO.ite ?_ ?_)
      | (with_reducible refine LeO.bind ?_ (fun _ => ?_))
      | exact ih0 _ _ _ _ _
      | exact ih1 _ _ _ _ _ _
      | exact ih2 _ _ _ _ _ _ _
      | exact ih3 _ _ _ _ _ _ _ _ _
      | exact ih4 _ _ _ _ _ _ _ _ _
      | exact ih5 _ _ _ _ _ _ _ _ _ _
      | exact ih6 _ _ _ _ _ _ _ _ _
      | exact miradorref17_free.mono _ _ _ _ _ _ _ _
      | exact LeO.none _
      | refine LeO.ite ?_ ?_
      | refine LeO.bind ?_ (fun _ => ?_)
    · intro y0 y1 y2 y3 y4 y5 y6 y7 y8
      unfold miradorref17_Pieces.l2
      repeat' first
      | (with_reducible exact ih0 _ _ _ _ _)
      | (with_reducible exact ih1 _ _ _ _ _ _)
      | (with_reducible exact ih2 _ _ _ _ _ _ _)
      | (with_reducible exact ih3 _ _ _ _ _ _ _ _ _)
      | (with_reducible exact ih4 _ _ _ _ _ _ _ _ _)
      | (with_reducible exact ih5 _ _ _ _ _ _ _ _ _ _)
      | (with_reducible exact ih6 _ _ _ _ _ _ _ _ _)
      | (with_reducible exact miradorref17_free.mono _ _ _ _ _ _ _ _)
      | (with_reducible exact LeO.refl _)
      | (with_reducible exact LeO.none _)
      | (with_reducible refine LeO.ite ?_ ?_)
      | (with_reducible refine LeO.bind ?_ (fun _ => ?_))
      | exact ih0 _ _ _ _ _
      | exact ih1 _ _ _ _ _ _
      | exact ih2 _ _ _ _ _ _ _
      | exact ih3 _ _ _ _ _ _ _ _ _
      | exact ih4 _ _ _ _ _ _ _ _ _
      | exact ih5 _ _ _ _ _ _ _ _ _ _
      | exact ih6 _ _ _ _ _ _ _ _ _
      | exact miradorref17_free.mono _ _ _ _ _ _ _ _
      | exact LeO.none _
      | refine LeO.ite ?_ ?_
      | refine LeO.bind ?_ (fun _ => ?_)
theorem miradorref17_Pieces.mono : ∀ a0 a1 a2 a3 k, LeO (miradorref17_Pieces.f k a0 a1 a2 a3) (miradorref17_Pieces.f (k + 1) a0 a1 a2 a3) := by
  intro a0 a1 a2 a3 k
  obtain ⟨ih0, ih1, ih2, ih3, ih4, ih5, ih6⟩ := miradorref17_Pieces.mono_l k
  unfold miradorref17_Pieces.f
  repeat' first
      | (with_reducible exact ih0 _ _ _ _ _)
      | (with_reducible exact ih1 _ _ _ _ _ _)
      | (with_reducible exact ih2 _ _ _ _ _ _ _)
      | (with_reducible exact ih3 _ _ _ _ _ _ _ _ _)
      | (with_reducible exact ih4 _ _ _ _ _ _ _ _ _)
      | (with_reducible exact ih5 _ _ _ _ _ _ _ _ _ _)
      | (with_reducible exact ih6 _ _ _ _ _ _ _ _ _)
      | (with_reducible exact miradorref17_free.mono _ _ _ _ _ _ _ _)
      | (with_reducible exact LeO.refl _)
      | (with_reducible exact LeO.none _)
      | (with_reducible refine LeO.ite ?_ ?_)
      | (with_reducible refine LeO.bind ?_ (fun _ => ?_))
      | exact ih0 _ _ _ _ _
      | exact ih1 _ _ _ _ _ _
      | exact ih2 _ _ _ _ _ _ _
      | exact ih3 _ _ _ _ _ _ _ _ _
      | exact ih4 _ _ _ _ _ _ _ _ _
      | exact ih5 _ _ _ _ _ _ _ _ _ _
      | exact ih6 _ _ _ _ _ _ _ _ _
      | exact miradorref17_free.mono _ _ _ _ _ _ _ _
      | exact LeO.none _
      | refine LeO.ite ?_ ?_
      | refine LeO.bind ?_ (fun _ => ?_)
set_option maxHeartbeats 8000000 in
set_option maxRecDepth 100000 in
theorem miradorref17_Pieces.calls (k : Nat) (a0 : Int) (a1 : Int) (A2 : Option Addr) (c2 : Nat) (l2 : List Int) (a3 : Int) (r : List (S33)) (w : World) (hr2 : Kd.C (Kd.int .i64) w A2 l2.length l2) (hc2 : l2.length ≤ c2) (h : miradorref17_Pieces.f k a0 a1 l2 a3 = some r) :
    Calls Try.prog 11 #[.int .i64 a0, .int .i64 a1, .slice A2 l2.length c2, .int .i64 a3] w fun e w' => ∃ v0_ : Value, e = .returned (v0_) ∧ Kd.R k33 33 w' w.heap.size (fun _ => True) v0_ r ∧ Below w.heap.size w w' := by
  have hu29 := Try.underlying29
  have hu33 := Try.underlying33
  have HR2 := Aside0.mk hr2
  have HC2 := Aside0.mk hc2
  clear hr2 hc2
  have HB := Aside0.mk (Below.refl w.heap.size w)
  have H : (if a0 < 0 then (miradorref17_Pieces.j0 k a0 a1 l2 a3 true) else (if a1 < 0 then (miradorref17_Pieces.j0 k a0 a1 l2 a3 true) else (if a0 > 4096 then (miradorref17_Pieces.j0 k a0 a1 l2 a3 true) else (if a1 > 4096 then (miradorref17_Pieces.j0 k a0 a1 l2 a3 true) else (miradorref17_Pieces.j0 k a0 a1 l2 a3 ((l2.length : Int) != (wrap64 (a0 * a1)))))))) = some r := h
  clear h
  have HC5 := Aside0.mk H
  clear H
  go_enter Try.func11, Try.ntmps11
  go_upto_region 1 with (fail)
  go_cut [37] (fun v37 wc => ∃ (kq : Nat) (x37_4 : Bool), v37 = .bool x37_4 ∧ Aside0 (miradorref17_Pieces.j0 kq a0 a1 l2 a3 x37_4 = some r) ∧ Aside0 (kq ≤ k) ∧ Aside0 (Below w.heap.size w wc))
  case first =>
    have H := HC5.out
    clear HC5
    by_cases c6 : a0 < 0
    · rw [if_pos c6] at H
      have c6b0 : decide (a0 < 0) = true := decide_eq_true c6
      clear c6
      (first | rw [c6b0] | (simp only [i64_w, i32_w]; rw [c6b0]) | skip)
      have H' := Aside0.mk H
      clear H
      go_wp2
      go_meet
      case rel => exact ⟨_, (true), (by first | rfl | (simp; done) | (simp [*]; done)), H', ⟨by first | omega | exact Nat.le_refl _⟩, ⟨by repeat (first | (with_reducible first | exact HB.out | apply below_alloc | apply pw_below_drewN | apply below_drew1) | exact HB.out)⟩⟩
    · rw [if_neg c6] at H
      have c6b0 : decide (a0 < 0) = false := decide_eq_false c6
      clear c6
      (first | rw [c6b0] | (simp only [i64_w, i32_w]; rw [c6b0]) | skip)
      by_cases c7 : a1 < 0
      · rw [if_pos c7] at H
        have c7b0 : decide (a1 < 0) = true := decide_eq_true c7
        clear c7
        have H' := Aside0.mk H
        clear H
        go_wp2
        go_meet
        case rel => exact ⟨_, (true), (by first | rfl | (simp; done) | (simp [*]; done)), H', ⟨by first | omega | exact Nat.le_refl _⟩, ⟨by repeat (first | (with_reducible first | exact HB.out | apply below_alloc | apply pw_below_drewN | apply below_drew1) | exact HB.out)⟩⟩
      · rw [if_neg c7] at H
        have c7b0 : decide (a1 < 0) = false := decide_eq_false c7
        clear c7
        by_cases c8 : a0 > 4096
        · rw [if_pos c8] at H
          have c8b0 : decide (4096 < a0) = true := decide_eq_true c8
          clear c8
          have H' := Aside0.mk H
          clear H
          go_wp2
          go_meet
          case rel => exact ⟨_, (true), (by first | rfl | (simp; done) | (simp [*]; done)), H', ⟨by first | omega | exact Nat.le_refl _⟩, ⟨by repeat (first | (with_reducible first | exact HB.out | apply below_alloc | apply pw_below_drewN | apply below_drew1) | exact HB.out)⟩⟩
        · rw [if_neg c8] at H
          have c8b0 : decide (4096 < a0) = false := decide_eq_false c8
          clear c8
          by_cases c9 : a1 > 4096
          · rw [if_pos c9] at H
            have c9b0 : decide (4096 < a1) = true := decide_eq_true c9
            clear c9
            have H' := Aside0.mk H
            clear H
            go_wp2
            go_meet
            case rel => exact ⟨_, (true), (by first | rfl | (simp; done) | (simp [*]; done)), H', ⟨by first | omega | exact Nat.le_refl _⟩, ⟨by repeat (first | (with_reducible first | exact HB.out | apply below_alloc | apply pw_below_drewN | apply below_drew1) | exact HB.out)⟩⟩
          · rw [if_neg c9] at H
            have c9b0 : decide (4096 < a1) = false := decide_eq_false c9
            clear c9
            have H' := Aside0.mk H
            clear H
            go_wp2
            go_meet
            case rel => exact ⟨_, (((l2.length : Int) != (wrap64 (a0 * a1)))), (by first | rfl | (simp; done) | (simp [*]; done)), H', ⟨by first | omega | exact Nat.le_refl _⟩, ⟨by repeat (first | (with_reducible first | exact HB.out | apply below_alloc | apply pw_below_drewN | apply below_drew1) | exact HB.out)⟩⟩
  case rest =>
    clear HC5
    try clear c1
    try clear c2
    try clear p2
    try clear c6
    try clear c6b0
    try clear p6
    try clear c7
    try clear c7b0
    try clear c8
    try clear c8b0
    try clear c9
    try clear c9b0
    obtain ⟨kq, x37_4, rfl, HA, HJ4, HB⟩ := hcut
    cases kq with
    | zero => exact absurd HA.out (by simp [miradorref17_Pieces.j0])
    | succ kj4 =>
      have H := HA.out
      clear HA
      simp only [miradorref17_Pieces.j0] at H
      by_cases c10 : x37_4 = true
      · subst c10
        have H1 : (some ([] : List (S33))) = some r := by rw [if_pos rfl] at H; exact H
        clear H
        have H := H1
        clear H1
        obtain rfl := Option.some.inj H
        go_wp2
        go_ret
        exact ⟨_, by first | rfl | (simp [errW_none, errW_some] <;> rfl) | (simp [*, errW_none, errW_some] <;> rfl), by first | exact Kd.R_nil _ _ _ _ _ | exact Kd.N_nil _ _ _ _ _ | exact Kd.V_nil _ _ _ _ _ | exact Kd.Q_nil _ _ _ _ _ | exact Kd.S_nil _ _ _ _ _, by repeat (first | (with_reducible first | exact HB.out | apply below_alloc | apply pw_below_drewN | apply below_drew1) | exact HB.out)⟩
      · replace c10 := Bool.eq_false_iff.mpr c10
        subst c10
        have H1 : (miradorref17_Pieces.l0 kj4 a0 a1 l2 a3 ([] : List (S33)) 0) = some r := by rw [if_neg (show ¬ (false = true) by decide)] at H; exact H
        clear H
        have H := H1
        clear H1
        have H' := Aside0.mk H
        clear H
        go_wp2
        go_loopg [9, 10] kj4 (fun kq v9 v10 w' => ∃ (x9_2 : List (S33)) (x10_2 : Int), v10 = .int .i64 x10_2 ∧ Aside0 (miradorref17_Pieces.l0 kq a0 a1 l2 a3 x9_2 x10_2 = some r) ∧ Aside0 (kq ≤ kj4) ∧ Aside0 (Kd.R k33 33 w' w.heap.size (fun _ => True) v9 x9_2) ∧ Aside0 (Below w.heap.size w w'))
        case atStart => exact ⟨(([] : List (S33))), (0), (by first | rfl | (simp; done) | (simp [*]; done)), H', ⟨Nat.le_refl _⟩, ⟨by first | exact Kd.R_nil _ _ _ _ _ | exact Kd.N_nil _ _ _ _ _ | exact Kd.V_nil _ _ _ _ _ | exact Kd.Q_nil _ _ _ _ _ | exact Kd.S_nil _ _ _ _ _⟩, ⟨by repeat (first | (with_reducible first | exact HB.out | apply below_alloc | apply pw_below_drewN | apply below_drew1) | exact HB.out)⟩⟩
        case round =>
          clear H'
          try clear c1
          try clear c2
          try clear p2
          try clear c6
          try clear c6b0
          try clear p6
          try clear c7
          try clear c7b0
          try clear c8
          try clear c8b0
          try clear c9
          try clear c9b0
          try clear c10
          try clear p2
          try clear p6
          obtain ⟨x9_2, x10_2, rfl, HA, HK2, HO_9, HB⟩ := hrel
          cases gk with
          | zero => exact absurd HA.out (by simp [miradorref17_Pieces.l0])
          | succ k2 =>
            have H := HA.out
            clear HA
            simp only [miradorref17_Pieces.l0] at H
            by_cases c11 : x10_2 < a1
            · rw [if_pos c11] at H
              have c11b0 : decide (x10_2 < a1) = true := decide_eq_true c11
              clear c11
              have H' := Aside0.mk H
              clear H
              go_wp2
              go_loopg [9, 11] k2 (fun kq v9 v11 w' => ∃ (x9_3 : List (S33)) (x11_3 : Int), v11 = .int .i64 x11_3 ∧ Aside0 (miradorref17_Pieces.l1 kq a0 a1 l2 a3 x9_3 x10_2 x11_3 = some r) ∧ Aside0 (kq ≤ k2) ∧ Aside0 (Kd.R k33 33 w' w.heap.size (fun _ => True) v9 x9_3) ∧ Aside0 (Below w.heap.size w w'))
              case atStart => exact ⟨(x9_2), (0), (by first | rfl | (simp; done) | (simp [*]; done)), H', ⟨Nat.le_refl _⟩, ⟨by (with_reducible repeat (first | apply Kd.R_alloc | apply Kd.R_drewN | apply Kd.R_drew)); exact HO_9.out⟩, ⟨by repeat (first | (with_reducible first | exact HB.out | apply below_alloc | apply pw_below_drewN | apply below_drew1) | exact HB.out)⟩⟩
              case round =>
                clear H'
                try clear c1
                try clear c2
                try clear p2
                try clear c6
                try clear c6b0
                try clear p6
                try clear c7
                try clear c7b0
                try clear c8
                try clear c8b0
                try clear c9
                try clear c9b0
                try clear c10
                try clear c11
                try clear c11b0
                try clear p2
                try clear p6
                obtain ⟨x9_3, x11_3, rfl, HA, HK3, HO_9, HB⟩ := hrel
                cases gk with
                | zero => exact absurd HA.out (by simp [miradorref17_Pieces.l1])
                | succ k3 =>
                  have H := HA.out
                  clear HA
                  simp only [miradorref17_Pieces.l1] at H
                  by_cases c12 : x11_3 < a0
                  · rw [if_pos c12] at H
                    have c12b0 : decide (x11_3 < a0) = true := decide_eq_true c12
                    clear c12
                    obtain ⟨ji13, hji13⟩ : ∃ j_ : Int, (wrap64 ((wrap64 (x10_2 * a0)) + x11_3)) = j_ := ⟨_, rfl⟩
                    replace H : (if 0 ≤ (ji13) then (if (ji13) < (l2.length : Int) then ((miradorref17_free.f k3 a0 l2 x9_3 (rd l2 (ji13)) x11_3 x10_2 1).bind fun t199 => (if (rd l2 (ji13)) = a3 then (miradorref17_Pieces.j3 k3 a0 a1 l2 a3 x9_3 x10_2 x11_3 (rd l2 (ji13)) true) else (miradorref17_Pieces.j3 k3 a0 a1 l2 a3 x9_3 x10_2 x11_3 (rd l2 (ji13)) (!t199)))) else (none)) else (none)) = some r := by first | (rw [hji13] at H; exact H) | (simp only [hji13] at H ⊢; exact H)
                    have hji13w : (IntKind.i64.wrap ((wrap64 (x10_2 * a0)) + x11_3)) = ji13 := (i64_w _).trans hji13
                    by_cases c14 : 0 ≤ (ji13)
                    · rw [if_pos c14] at H
                      have c14b0 : decide (0 ≤ (ji13)) = true := decide_eq_true c14
                      clear c14
                      by_cases c15 : (ji13) < (l2.length : Int)
                      · rw [if_pos c15] at H
                        have c15b0 : decide ((ji13) < (l2.length : Int)) = true := decide_eq_true c15
                        clear c15
                        replace H := Option.bind_eq_some_iff.mp H
                        obtain ⟨t199, A160, H⟩ := H
                        replace H : (if (rd l2 (ji13)) = a3 then (miradorref17_Pieces.j3 k3 a0 a1 l2 a3 x9_3 x10_2 x11_3 (rd l2 (ji13)) true) else (miradorref17_Pieces.j3 k3 a0 a1 l2 a3 x9_3 x10_2 x11_3 (rd l2 (ji13)) (!t199))) = some r := H
                        have A16 := Aside0.mk A160
                        clear A160
                        have HC17 := Aside0.mk H
                        clear H
                        have p198 : 0 ≤ ((ji13) : Int) := of_decide_eq_true (by first | (with_reducible assumption) | assumption)
                        have q198 : (ji13) < (l2.length : Int) := of_decide_eq_true (by first | (with_reducible assumption) | assumption)
                        obtain ⟨ad198, e198, hx198_0⟩ := Kd.at_int HR2.out (ji13) p198 q198
                        cases e198
                        replace hx198_0 := (HB.out.cell (World.block_lt_of_cell? w _ hx198_0)).trans hx198_0
                        replace p198 := eq_true p198
                        replace q198 := eq_true q198
                        obtain ⟨Ao18, co18, eo18⟩ := Kd.R_slice HO_9.out
                        subst eo18
                        go_upto_region 12 with (first | ((with_reducible refine gate_callee (f := 28) rfl ?_); refine goesL_ (some 62) rfl rfl Try.func28 (by kernel_rfl) rfl #[.int .i64 a0, .slice (some ad198) l2.length c2, .slice Ao18 x9_3.length co18, .int .i64 (rd l2 (ji13)), .int .i64 x11_3, .int .i64 x10_2, .int .i64 1] rfl (by (try simp only [List.map_toArray, List.map_cons, List.map_nil]); first | done | (simp only [hji13]; rfl) | rfl | (simp only [List.length_drop, List.length_take]; rfl)) ?_; (with_reducible refine (miradorref17_free.calls k3 a0 _ _ l2 _ _ x9_3 (rd l2 (ji13)) x11_3 x10_2 1 t199 _ ?side1 ?side2 ?side3 ?side4 A16.out).mono ?_); (case side1 => repeat (first | exact (Kd.C_below HR2.out HB.out) | (with_reducible refine Kd.C_alloc ?_ _) | (with_reducible refine Kd.C_drewN ?_ _) | (with_reducible refine Kd.C_drew ?_))); (case side2 => exact HC2.out); (case side3 => repeat (first | exact (Kd.R_reads' HO_9.out).2.2 | (with_reducible refine Kd.C_alloc ?_ _) | (with_reducible refine Kd.C_drewN ?_ _) | (with_reducible refine Kd.C_drew ?_))); (case side4 => exact (Kd.R_reads' HO_9.out).2.1); rintro e w19 ⟨rfl, hb⟩; refine ⟨_, rfl, ?_⟩; have n0_ := Aside0.mk (Kd.R_below (by (with_reducible repeat (first | apply Kd.R_alloc | apply Kd.R_drewN | apply Kd.R_drew)); exact HO_9.out) hb); have n1_ := Aside0.mk (below_step (by repeat (first | (with_reducible first | exact HB.out | apply below_alloc | apply pw_below_drewN | apply below_drew1) | exact HB.out)) hb); clear HO_9; clear HB; have HO_9 := n0_; have HB := n1_; clear n0_ n1_; (try clear hb); (try clear hb2); (try clear hk); (try clear hi)))
                        (try simp only [Act.put, List.setIfInBounds_toArray, List.set_cons_zero, List.set_cons_succ])
                        go_cut [69] (fun v69 wc => ∃ (kq : Nat) (x69_16 : Bool), v69 = .bool x69_16 ∧ Aside0 (miradorref17_Pieces.j3 kq a0 a1 l2 a3 x9_3 x10_2 x11_3 (rd l2 (ji13)) x69_16 = some r) ∧ Aside0 (kq ≤ k3) ∧ Aside0 (Kd.R k33 33 wc w.heap.size (fun _ => True) (.slice Ao18 x9_3.length co18) x9_3) ∧ Aside0 (Below w.heap.size w wc))
                        case first =>
                          have H := HC17.out
                          clear HC17
                          by_cases c20 : (rd l2 (ji13)) = a3
                          · rw [if_pos c20] at H
                            have c20b0 : ((rd l2 (ji13)) == a3) = true := beq_iff_eq.mpr c20
                            have c20b1 : ((rd l2 (ji13)) != a3) = false := bne_eq_false_iff_eq.mpr c20
                            clear c20
                            (first | rw [c20b0] | (simp only [i64_w, i32_w]; rw [c20b0]) | skip)
                            have H' := Aside0.mk H
                            clear H
                            go_wp2
                            go_meet
                            case rel => exact ⟨_, (true), (by first | rfl | (simp; done) | (simp [*]; done)), H', ⟨by have := HJ4.out; have := HK2.out; have := HK3.out; first | omega | exact Nat.le_refl _⟩, ⟨by (with_reducible repeat (first | apply Kd.R_alloc | apply Kd.R_drewN | apply Kd.R_drew)); exact HO_9.out⟩, ⟨by repeat (first | (with_reducible first | exact HB.out | apply below_alloc | apply pw_below_drewN | apply below_drew1) | exact HB.out)⟩⟩
                          · rw [if_neg c20] at H
                            have c20b0 : ((rd l2 (ji13)) == a3) = false := beq_eq_false_iff_ne.mpr c20
                            have c20b1 : ((rd l2 (ji13)) != a3) = true := bne_iff_ne.mpr c20
                            (first | rw [c20b0] | (simp only [i64_w, i32_w]; rw [c20b0]) | skip)
                            have H' := Aside0.mk H
                            clear H
                            go_wp2
                            go_meet
                            case rel => exact ⟨_, (!t199), (by first | rfl | (simp; done) | (simp [*]; done)), H', ⟨by have := HJ4.out; have := HK2.out; have := HK3.out; first | omega | exact Nat.le_refl _⟩, ⟨by (with_reducible repeat (first | apply Kd.R_alloc | apply Kd.R_drewN | apply Kd.R_drew)); exact HO_9.out⟩, ⟨by repeat (first | (with_reducible first | exact HB.out | apply below_alloc | apply pw_below_drewN | apply below_drew1) | exact HB.out)⟩⟩
                        case rest =>
                          clear HC17
                          try clear c1
                          try clear p1
                          try clear q1
                          try clear hx1
                          try clear c2
                          try clear p2
                          try clear c6
                          try clear c6b0
                          try clear p6
                          try clear c7
                          try clear c7b0
                          try clear c8
                          try clear c8b0
                          try clear c9
                          try clear c9b0
                          try clear c10
                          try clear c11
                          try clear c11b0
                          try clear c12
                          try clear c12b0
                          try clear c14
                          try clear c14b0
                          try clear c15
                          try clear c15b0
                          try clear p19
                          try clear q19
                          try clear hx19
                          try clear c20
                          try clear c20b0
                          try clear c20b1
                          try clear hx198_0
                          try clear p198
                          try clear p2
                          try clear p6
                          try clear q198
                          obtain ⟨kq, x69_16, rfl, HA, HJ16, HO_9, HB⟩ := hcut
                          cases kq with
                          | zero => exact absurd HA.out (by simp [miradorref17_Pieces.j3])
                          | succ kj16 =>
                            have H := HA.out
                            clear HA
                            simp only [miradorref17_Pieces.j3] at H
                            by_cases c21 : x69_16 = true
                            · subst c21
                              have H1 : (miradorref17_Pieces.l1 kj16 a0 a1 l2 a3 x9_3 x10_2 (wrap64 (x11_3 + 1))) = some r := by rw [if_pos rfl] at H; exact H
                              clear H
                              have H := H1
                              clear H1
                              have H' := Aside0.mk H
                              clear H
                              go_wp2
                              go_roundg kj16
                              case measure => have := HJ4.out; have := HK2.out; have := HK3.out; have := HJ16.out; omega
                              case rel => exact ⟨(x9_3), (wrap64 (x11_3 + 1)), (by first | rfl | (simp; done) | (simp [*]; done)), H', ⟨by have := HJ4.out; have := HK2.out; have := HK3.out; have := HJ16.out; omega⟩, ⟨by (with_reducible repeat (first | apply Kd.R_alloc | apply Kd.R_drewN | apply Kd.R_drew)); exact HO_9.out⟩, ⟨by repeat (first | (with_reducible first | exact HB.out | apply below_alloc | apply pw_below_drewN | apply below_drew1) | exact HB.out)⟩⟩
                            · replace c21 := Bool.eq_false_iff.mpr c21
                              subst c21
                              have H1 : (miradorref17_Pieces.l2 kj16 a0 a1 l2 a3 x9_3 x10_2 x11_3 (rd l2 (ji13)) 1) = some r := by rw [if_neg (show ¬ (false = true) by decide)] at H; exact H
                              clear H
                              have H := H1
                              clear H1
                              have HC22 := Aside0.mk H
                              clear H
                              go_upto_block 4 with (fail)
                              go_cut [14] (fun v14 wc => ∃ (kq : Nat) (x14_21 : Int), v14 = .int .i64 x14_21 ∧ Aside0 (miradorref17_Pieces.j5 kq a0 a1 l2 a3 x9_3 x10_2 x11_3 (rd l2 (ji13)) x14_21 = some r) ∧ Aside0 (kq ≤ kj16) ∧ Aside0 (Kd.R k33 33 wc w.heap.size (fun _ => True) (.slice Ao18 x9_3.length co18) x9_3) ∧ Aside0 (Below w.heap.size w wc))
                              case first =>
                                have H := HC22.out
                                clear HC22
                                have H' := Aside0.mk H
                                clear H
                                go_wp2
                                go_loopg [14] kj16 (fun kq v14 w' => ∃ (x14_5 : Int), v14 = .int .i64 x14_5 ∧ Aside0 (miradorref17_Pieces.l2 kq a0 a1 l2 a3 x9_3 x10_2 x11_3 (rd l2 (ji13)) x14_5 = some r) ∧ Aside0 (kq ≤ kj16) ∧ Aside0 (Kd.R k33 33 w' w.heap.size (fun _ => True) (.slice Ao18 x9_3.length co18) x9_3) ∧ Aside0 (Below w.heap.size w w'))
                                case atStart => exact ⟨(1), (by first | rfl | (simp; done) | (simp [*]; done)), H', ⟨Nat.le_refl _⟩, ⟨by (with_reducible repeat (first | apply Kd.R_alloc | apply Kd.R_drewN | apply Kd.R_drew)); exact HO_9.out⟩, ⟨by repeat (first | (with_reducible first | exact HB.out | apply below_alloc | apply pw_below_drewN | apply below_drew1) | exact HB.out)⟩⟩
                                case round =>
                                  clear H'
                                  try clear c1
                                  try clear p1
                                  try clear q1
                                  try clear hx1
                                  try clear c2
                                  try clear p2
                                  try clear c6
                                  try clear c6b0
                                  try clear p6
                                  try clear c7
                                  try clear c7b0
                                  try clear c8
                                  try clear c8b0
                                  try clear c9
                                  try clear c9b0
                                  try clear c10
                                  try clear c11
                                  try clear c11b0
                                  try clear c12
                                  try clear c12b0
                                  try clear c14
                                  try clear c14b0
                                  try clear c15
                                  try clear c15b0
                                  try clear p19
                                  try clear q19
                                  try clear hx19
                                  try clear c20
                                  try clear c20b0
                                  try clear c20b1
                                  try clear c21
                                  try clear hx198_0
                                  try clear p1
                                  try clear p19
                                  try clear p198
                                  try clear p2
                                  try clear p6
                                  try clear q1
                                  try clear q19
                                  try clear q198
                                  obtain ⟨x14_5, rfl, HA, HK5, HO_9, HB⟩ := hrel
                                  cases gk with
                                  | zero => exact absurd HA.out (by simp [miradorref17_Pieces.l2])
                                  | succ k5 =>
                                    have H := HA.out
                                    clear HA
                                    simp only [miradorref17_Pieces.l2] at H
                                    by_cases c23 : (wrap64 (x11_3 + x14_5)) < a0
                                    · rw [if_pos c23] at H
                                      have c23b0 : decide ((wrap64 (x11_3 + x14_5)) < a0) = true := decide_eq_true c23
                                      clear c23
                                      (first | rw [c23b0] | (simp only [i64_w, i32_w]; rw [c23b0]) | skip)
                                      replace H := Option.bind_eq_some_iff.mp H
                                      obtain ⟨t200, A240, H⟩ := H
                                      replace H : (if t200 = true then (miradorref17_Pieces.l2 k5 a0 a1 l2 a3 x9_3 x10_2 x11_3 (rd l2 (ji13)) (wrap64 (x14_5 + 1))) else (miradorref17_Pieces.j5 k5 a0 a1 l2 a3 x9_3 x10_2 x11_3 (rd l2 (ji13)) x14_5)) = some r := H
                                      have A24 := Aside0.mk A240
                                      clear A240
                                      by_cases c25 : t200 = true
                                      · subst c25
                                        have H1 : (miradorref17_Pieces.l2 k5 a0 a1 l2 a3 x9_3 x10_2 x11_3 (rd l2 (ji13)) (wrap64 (x14_5 + 1))) = some r := by rw [if_pos rfl] at H; exact H
                                        clear H
                                        have H := H1
                                        clear H1
                                        have H' := Aside0.mk H
                                        clear H
                                        go_wp2_with (first | (go_at_call 28; (with_reducible refine (miradorref17_free.calls k5 a0 _ _ l2 _ _ x9_3 (rd l2 (ji13)) (wrap64 (x11_3 + x14_5)) x10_2 1 true _ ?side1 ?side2 ?side3 ?side4 A24.out).mono ?_); (case side1 => repeat (first | exact (Kd.C_below HR2.out HB.out) | (with_reducible refine Kd.C_alloc ?_ _) | (with_reducible refine Kd.C_drewN ?_ _) | (with_reducible refine Kd.C_drew ?_))); (case side2 => exact HC2.out); (case side3 => repeat (first | exact (Kd.R_reads' HO_9.out).2.2 | (with_reducible refine Kd.C_alloc ?_ _) | (with_reducible refine Kd.C_drewN ?_ _) | (with_reducible refine Kd.C_drew ?_))); (case side4 => exact (Kd.R_reads' HO_9.out).2.1); rintro e w26 ⟨rfl, hb⟩; have n0_ := Aside0.mk (Kd.R_below (by (with_reducible repeat (first | apply Kd.R_alloc | apply Kd.R_drewN | apply Kd.R_drew)); exact HO_9.out) hb); have n1_ := Aside0.mk (below_step (by repeat (first | (with_reducible first | exact HB.out | apply below_alloc | apply pw_below_drewN | apply below_drew1) | exact HB.out)) hb); clear HO_9; clear HB; have HO_9 := n0_; have HB := n1_; clear n0_ n1_; (try clear hb); (try clear hb2); (try clear hk); (try clear hi)))
                                        go_roundg k5
                                        case measure => have := HJ4.out; have := HK2.out; have := HK3.out; have := HJ16.out; have := HK5.out; omega
                                        case rel => exact ⟨(wrap64 (x14_5 + 1)), (by first | rfl | (simp; done) | (simp [*]; done)), H', ⟨by have := HJ4.out; have := HK2.out; have := HK3.out; have := HJ16.out; have := HK5.out; omega⟩, ⟨by (with_reducible repeat (first | apply Kd.R_alloc | apply Kd.R_drewN | apply Kd.R_drew)); exact HO_9.out⟩, ⟨by repeat (first | (with_reducible first | exact HB.out | apply below_alloc | apply pw_below_drewN | apply below_drew1) | exact HB.out)⟩⟩
                                      · replace c25 := Bool.eq_false_iff.mpr c25
                                        subst c25
                                        have H1 : (miradorref17_Pieces.j5 k5 a0 a1 l2 a3 x9_3 x10_2 x11_3 (rd l2 (ji13)) x14_5) = some r := by rw [if_neg (show ¬ (false = true) by decide)] at H; exact H
                                        clear H
                                        have H := H1
                                        clear H1
                                        have H' := Aside0.mk H
                                        clear H
                                        go_wp2_with (first | (go_at_call 28; (with_reducible refine (miradorref17_free.calls k5 a0 _ _ l2 _ _ x9_3 (rd l2 (ji13)) (wrap64 (x11_3 + x14_5)) x10_2 1 false _ ?side1 ?side2 ?side3 ?side4 A24.out).mono ?_); (case side1 => repeat (first | exact (Kd.C_below HR2.out HB.out) | (with_reducible refine Kd.C_alloc ?_ _) | (with_reducible refine Kd.C_drewN ?_ _) | (with_reducible refine Kd.C_drew ?_))); (case side2 => exact HC2.out); (case side3 => repeat (first | exact (Kd.R_reads' HO_9.out).2.2 | (with_reducible refine Kd.C_alloc ?_ _) | (with_reducible refine Kd.C_drewN ?_ _) | (with_reducible refine Kd.C_drew ?_))); (case side4 => exact (Kd.R_reads' HO_9.out).2.1); rintro e w27 ⟨rfl, hb⟩; have n0_ := Aside0.mk (Kd.R_below (by (with_reducible repeat (first | apply Kd.R_alloc | apply Kd.R_drewN | apply Kd.R_drew)); exact HO_9.out) hb); have n1_ := Aside0.mk (below_step (by repeat (first | (with_reducible first | exact HB.out | apply below_alloc | apply pw_below_drewN | apply below_drew1) | exact HB.out)) hb); clear HO_9; clear HB; have HO_9 := n0_; have HB := n1_; clear n0_ n1_; (try clear hb); (try clear hb2); (try clear hk); (try clear hi)))
                                        go_meet
                                        case rel => exact ⟨_, (x14_5), (by first | rfl | (simp; done) | (simp [*]; done)), H', ⟨by have := HJ4.out; have := HK2.out; have := HK3.out; have := HJ16.out; have := HK5.out; first | omega | exact Nat.le_refl _⟩, ⟨by (with_reducible repeat (first | apply Kd.R_alloc | apply Kd.R_drewN | apply Kd.R_drew)); exact HO_9.out⟩, ⟨by repeat (first | (with_reducible first | exact HB.out | apply below_alloc | apply pw_below_drewN | apply below_drew1) | exact HB.out)⟩⟩
                                    · rw [if_neg c23] at H
                                      have c23b0 : decide ((wrap64 (x11_3 + x14_5)) < a0) = false := decide_eq_false c23
                                      clear c23
                                      (first | rw [c23b0] | (simp only [i64_w, i32_w]; rw [c23b0]) | skip)
                                      have H' := Aside0.mk H
                                      clear H
                                      go_wp2
                                      go_meet
                                      case rel => exact ⟨_, (x14_5), (by first | rfl | (simp; done) | (simp [*]; done)), H', ⟨by have := HJ4.out; have := HK2.out; have := HK3.out; have := HJ16.out; have := HK5.out; first | omega | exact Nat.le_refl _⟩, ⟨by (with_reducible repeat (first | apply Kd.R_alloc | apply Kd.R_drewN | apply Kd.R_drew)); exact HO_9.out⟩, ⟨by repeat (first | (with_reducible first | exact HB.out | apply below_alloc | apply pw_below_drewN | apply below_drew1) | exact HB.out)⟩⟩
                              case rest =>
                                clear HC22
                                try clear c1
                                try clear p1
                                try clear q1
                                try clear hx1
                                try clear c2
                                try clear p2
                                try clear c6
                                try clear c6b0
                                try clear p6
                                try clear c7
                                try clear c7b0
                                try clear c8
                                try clear c8b0
                                try clear c9
                                try clear c9b0
                                try clear c10
                                try clear c11
                                try clear c11b0
                                try clear c12
                                try clear c12b0
                                try clear c14
                                try clear c14b0
                                try clear c15
                                try clear c15b0
                                try clear p19
                                try clear q19
                                try clear hx19
                                try clear c20
                                try clear c20b0
                                try clear c20b1
                                try clear c21
                                try clear c23
                                try clear c23b0
                                try clear c25
                                try clear hx198_0
                                try clear p1
                                try clear p19
                                try clear p198
                                try clear p2
                                try clear p6
                                try clear q1
                                try clear q19
                                try clear q198
                                obtain ⟨kq, x14_21, rfl, HA, HJ21, HO_9, HB⟩ := hcut
                                cases kq with
                                | zero => exact absurd HA.out (by simp [miradorref17_Pieces.j5])
                                | succ kj21 =>
                                  have H := HA.out
                                  clear HA
                                  simp only [miradorref17_Pieces.j5] at H
                                  have H' := Aside0.mk H
                                  clear H
                                  go_wp2
                                  go_loopg [15] kj21 (fun kq v15 w' => ∃ (x15_6 : Int), v15 = .int .i64 x15_6 ∧ Aside0 (miradorref17_Pieces.l3 kq a0 a1 l2 a3 x9_3 x10_2 x11_3 (rd l2 (ji13)) x14_21 x15_6 = some r) ∧ Aside0 (kq ≤ kj21) ∧ Aside0 (Kd.R k33 33 w' w.heap.size (fun _ => True) (.slice Ao18 x9_3.length co18) x9_3) ∧ Aside0 (Below w.heap.size w w'))
                                  case atStart => exact ⟨(1), (by first | rfl | (simp; done) | (simp [*]; done)), H', ⟨Nat.le_refl _⟩, ⟨by (with_reducible repeat (first | apply Kd.R_alloc | apply Kd.R_drewN | apply Kd.R_drew)); exact HO_9.out⟩, ⟨by repeat (first | (with_reducible first | exact HB.out | apply below_alloc | apply pw_below_drewN | apply below_drew1) | exact HB.out)⟩⟩
                                  case round =>
                                    clear H'
                                    try clear c1
                                    try clear p1
                                    try clear q1
                                    try clear hx1
                                    try clear c2
                                    try clear p2
                                    try clear c6
                                    try clear c6b0
                                    try clear p6
                                    try clear c7
                                    try clear c7b0
                                    try clear c8
                                    try clear c8b0
                                    try clear c9
                                    try clear c9b0
                                    try clear c10
                                    try clear c11
                                    try clear c11b0
                                    try clear c12
                                    try clear c12b0
                                    try clear c14
                                    try clear c14b0
                                    try clear c15
                                    try clear c15b0
                                    try clear p19
                                    try clear q19
                                    try clear hx19
                                    try clear c20
                                    try clear c20b0
                                    try clear c20b1
                                    try clear c21
                                    try clear c23
                                    try clear c23b0
                                    try clear c25
                                    try clear hx198_0
                                    try clear p1
                                    try clear p19
                                    try clear p198
                                    try clear p2
                                    try clear p6
                                    try clear q1
                                    try clear q19
                                    try clear q198
                                    obtain ⟨x15_6, rfl, HA, HK6, HO_9, HB⟩ := hrel
                                    cases gk with
                                    | zero => exact absurd HA.out (by simp [miradorref17_Pieces.l3])
                                    | succ k6 =>
                                      have H := HA.out
                                      clear HA
                                      simp only [miradorref17_Pieces.l3] at H
                                      by_cases c28 : (wrap64 (x10_2 + x15_6)) < a1
                                      · rw [if_pos c28] at H
                                        have c28b0 : decide ((wrap64 (x10_2 + x15_6)) < a1) = true := decide_eq_true c28
                                        clear c28
                                        replace H := Option.bind_eq_some_iff.mp H
                                        obtain ⟨t201, A290, H⟩ := H
                                        replace H : (if t201 = true then (miradorref17_Pieces.l3 k6 a0 a1 l2 a3 x9_3 x10_2 x11_3 (rd l2 (ji13)) x14_21 (wrap64 (x15_6 + 1))) else (if x9_3.length < 3518437208883 then (miradorref17_Pieces.l1 k6 a0 a1 l2 a3 (x9_3 ++ [(⟨(rd l2 (ji13)), (⟨x11_3, x10_2, x14_21, x15_6⟩ : S29)⟩ : S33)]) x10_2 (wrap64 (x11_3 + 1))) else (none))) = some r := H
                                        have A29 := Aside0.mk A290
                                        clear A290
                                        by_cases c30 : t201 = true
                                        · subst c30
                                          have H1 : (miradorref17_Pieces.l3 k6 a0 a1 l2 a3 x9_3 x10_2 x11_3 (rd l2 (ji13)) x14_21 (wrap64 (x15_6 + 1))) = some r := by rw [if_pos rfl] at H; exact H
                                          clear H
                                          have H := H1
                                          clear H1
                                          have H' := Aside0.mk H
                                          clear H
                                          go_wp2_with (first | (go_at_call 28; (with_reducible refine (miradorref17_free.calls k6 a0 _ _ l2 _ _ x9_3 (rd l2 (ji13)) x11_3 (wrap64 (x10_2 + x15_6)) x14_21 true _ ?side1 ?side2 ?side3 ?side4 A29.out).mono ?_); (case side1 => repeat (first | exact (Kd.C_below HR2.out HB.out) | (with_reducible refine Kd.C_alloc ?_ _) | (with_reducible refine Kd.C_drewN ?_ _) | (with_reducible refine Kd.C_drew ?_))); (case side2 => exact HC2.out); (case side3 => repeat (first | exact (Kd.R_reads' HO_9.out).2.2 | (with_reducible refine Kd.C_alloc ?_ _) | (with_reducible refine Kd.C_drewN ?_ _) | (with_reducible refine Kd.C_drew ?_))); (case side4 => exact (Kd.R_reads' HO_9.out).2.1); rintro e w31 ⟨rfl, hb⟩; have n0_ := Aside0.mk (Kd.R_below (by (with_reducible repeat (first | apply Kd.R_alloc | apply Kd.R_drewN | apply Kd.R_drew)); exact HO_9.out) hb); have n1_ := Aside0.mk (below_step (by repeat (first | (with_reducible first | exact HB.out | apply below_alloc | apply pw_below_drewN | apply below_drew1) | exact HB.out)) hb); clear HO_9; clear HB; have HO_9 := n0_; have HB := n1_; clear n0_ n1_; (try clear hb); (try clear hb2); (try clear hk); (try clear hi)))
                                          go_roundg k6
                                          case measure => have := HJ4.out; have := HK2.out; have := HK3.out; have := HJ16.out; have := HJ21.out; have := HK6.out; omega
                                          case rel => exact ⟨(wrap64 (x15_6 + 1)), (by first | rfl | (simp; done) | (simp [*]; done)), H', ⟨by have := HJ4.out; have := HK2.out; have := HK3.out; have := HJ16.out; have := HJ21.out; have := HK6.out; omega⟩, ⟨by (with_reducible repeat (first | apply Kd.R_alloc | apply Kd.R_drewN | apply Kd.R_drew)); exact HO_9.out⟩, ⟨by repeat (first | (with_reducible first | exact HB.out | apply below_alloc | apply pw_below_drewN | apply below_drew1) | exact HB.out)⟩⟩
                                        · replace c30 := Bool.eq_false_iff.mpr c30
                                          subst c30
                                          have H1 : (if x9_3.length < 3518437208883 then (miradorref17_Pieces.l1 k6 a0 a1 l2 a3 (x9_3 ++ [(⟨(rd l2 (ji13)), (⟨x11_3, x10_2, x14_21, x15_6⟩ : S29)⟩ : S33)]) x10_2 (wrap64 (x11_3 + 1))) else (none)) = some r := by rw [if_neg (show ¬ (false = true) by decide)] at H; exact H
                                          clear H
                                          have H := H1
                                          clear H1
                                          by_cases c32 : x9_3.length < 3518437208883
                                          · rw [if_pos c32] at H
                                            have LMc32 := Aside0.mk c32
                                            clear c32
                                            obtain ⟨y202, hy202⟩ : ∃ y_ : List (S33), y_ = (x9_3 ++ [(⟨(rd l2 (ji13)), (⟨x11_3, x10_2, x14_21, x15_6⟩ : S29)⟩ : S33)]) := ⟨_, rfl⟩
                                            replace H : (miradorref17_Pieces.l1 k6 a0 a1 l2 a3 y202 x10_2 (wrap64 (x11_3 + 1))) = some r := by first | (rw [hy202]; with_reducible exact H) | (have H2_ := (Option.bind_some _ _).symm.trans H; rw [hy202]; with_reducible exact H2_) | (have H2_ := (Option.bind_some _ _).symm.trans H; with_reducible exact H2_) | with_reducible exact H | (rw [hy202]; exact H) | exact H
                                            have Ny202 := Aside0.mk hy202
                                            clear hy202
                                            have H' := Aside0.mk H
                                            clear H
                                            go_wp2_with (first | (go_at_call 28; (with_reducible refine (miradorref17_free.calls k6 a0 _ _ l2 _ _ x9_3 (rd l2 (ji13)) x11_3 (wrap64 (x10_2 + x15_6)) x14_21 false _ ?side1 ?side2 ?side3 ?side4 A29.out).mono ?_); (case side1 => repeat (first | exact (Kd.C_below HR2.out HB.out) | (with_reducible refine Kd.C_alloc ?_ _) | (with_reducible refine Kd.C_drewN ?_ _) | (with_reducible refine Kd.C_drew ?_))); (case side2 => exact HC2.out); (case side3 => repeat (first | exact (Kd.R_reads' HO_9.out).2.2 | (with_reducible refine Kd.C_alloc ?_ _) | (with_reducible refine Kd.C_drewN ?_ _) | (with_reducible refine Kd.C_drew ?_))); (case side4 => exact (Kd.R_reads' HO_9.out).2.1); rintro e w33 ⟨rfl, hb⟩; have n0_ := Aside0.mk (Kd.R_below (by (with_reducible repeat (first | apply Kd.R_alloc | apply Kd.R_drewN | apply Kd.R_drew)); exact HO_9.out) hb); have n1_ := Aside0.mk (below_step (by repeat (first | (with_reducible first | exact HB.out | apply below_alloc | apply pw_below_drewN | apply below_drew1) | exact HB.out)) hb); clear HO_9; clear HB; have HO_9 := n0_; have HB := n1_; clear n0_ n1_; (try clear hb); (try clear hb2); (try clear hk); (try clear hi)) | ((with_reducible refine gate_builtin (b := .append) (xs := #[.tmp 107, .tmp 115]) rfl ?_); (try (refine gate_guard (by rfl) ?_; dsimp only)); at_builtin; refine Kd.R_append k33 (w0 := w) w.heap.size rfl (.tmp 107) (.tmp 115) 26 33 (.agg #[(.int .i64 0), (.int .i64 0), (.int .i64 0), (.int .i64 0), (.int .i64 0)]) 40 rfl Try.underlying26 info33 rfl (by decide) (by omega) (.slice Ao18 x9_3.length co18) x9_3 (⟨(rd l2 (ji13)), (⟨x11_3, x10_2, x14_21, x15_6⟩ : S29)⟩ : S33) [.int .i64 (rd l2 (ji13)), .int .i64 x11_3, .int .i64 x10_2, .int .i64 x14_21, .int .i64 x15_6] (fun _ => True) (fun _ => False) rfl rfl ?aP (fun _ hk => hk.elim) ?aF ?aO ?aB ?aS ?aL ?_; (case aP => exact k33_mkM _ _ _ (⟨(rd l2 (ji13)), (⟨x11_3, x10_2, x14_21, x15_6⟩ : S29)⟩ : S33)); (case aB => exact (by repeat (first | (with_reducible first | exact HB.out | apply below_alloc | apply pw_below_drewN | apply below_drew1) | exact HB.out))); (case aF => exact (fun _ _ => trivial)); (case aO => exact (by (with_reducible repeat (first | apply Kd.R_alloc | apply Kd.R_drewN | apply Kd.R_drew)); exact HO_9.out)); (case aS => exact (below_size (by repeat (first | (with_reducible first | exact HB.out | apply below_alloc | apply pw_below_drewN | apply below_drew1) | exact HB.out)))); (case aL => have := LMc32.out; omega); intro v203 w34 ho hb hg hat; rw [← Ny202.out] at ho; have n0_ := Aside0.mk (hb); have n1_ := Aside0.mk (ho); clear HB; clear HO_9; have HB := n0_; have HO204 := n1_; clear n0_ n1_; clear ho hb hg hat))
                                            go_roundg k6
                                            case measure => have := HJ4.out; have := HK2.out; have := HK3.out; have := HJ16.out; have := HJ21.out; have := HK6.out; omega
                                            case rel => exact ⟨(y202), (wrap64 (x11_3 + 1)), (by first | rfl | (simp; done) | (simp [*]; done)), H', ⟨by have := HJ4.out; have := HK2.out; have := HK3.out; have := HJ16.out; have := HJ21.out; have := HK6.out; omega⟩, ⟨by (with_reducible repeat (first | apply Kd.R_alloc | apply Kd.R_drewN | apply Kd.R_drew)); exact HO204.out⟩, ⟨by repeat (first | (with_reducible first | exact HB.out | apply below_alloc | apply pw_below_drewN | apply below_drew1) | exact HB.out)⟩⟩
                                          · rw [if_neg c32] at H
                                            exact absurd H (by simp)
                                      · rw [if_neg c28] at H
                                        have c28b0 : decide ((wrap64 (x10_2 + x15_6)) < a1) = false := decide_eq_false c28
                                        clear c28
                                        by_cases c35 : x9_3.length < 3518437208883
                                        · rw [if_pos c35] at H
                                          have LMc35 := Aside0.mk c35
                                          clear c35
                                          obtain ⟨y205, hy205⟩ : ∃ y_ : List (S33), y_ = (x9_3 ++ [(⟨(rd l2 (ji13)), (⟨x11_3, x10_2, x14_21, x15_6⟩ : S29)⟩ : S33)]) := ⟨_, rfl⟩
                                          replace H : (miradorref17_Pieces.l1 k6 a0 a1 l2 a3 y205 x10_2 (wrap64 (x11_3 + 1))) = some r := by first | (rw [hy205]; with_reducible exact H) | (have H2_ := (Option.bind_some _ _).symm.trans H; rw [hy205]; with_reducible exact H2_) | (have H2_ := (Option.bind_some _ _).symm.trans H; with_reducible exact H2_) | with_reducible exact H | (rw [hy205]; exact H) | exact H
                                          have Ny205 := Aside0.mk hy205
                                          clear hy205
                                          have H' := Aside0.mk H
                                          clear H
                                          go_wp2_with (first | ((with_reducible refine gate_builtin (b := .append) (xs := #[.tmp 107, .tmp 115]) rfl ?_); (try (refine gate_guard (by rfl) ?_; dsimp only)); at_builtin; refine Kd.R_append k33 (w0 := w) w.heap.size rfl (.tmp 107) (.tmp 115) 26 33 (.agg #[(.int .i64 0), (.int .i64 0), (.int .i64 0), (.int .i64 0), (.int .i64 0)]) 40 rfl Try.underlying26 info33 rfl (by decide) (by omega) (.slice Ao18 x9_3.length co18) x9_3 (⟨(rd l2 (ji13)), (⟨x11_3, x10_2, x14_21, x15_6⟩ : S29)⟩ : S33) [.int .i64 (rd l2 (ji13)), .int .i64 x11_3, .int .i64 x10_2, .int .i64 x14_21, .int .i64 x15_6] (fun _ => True) (fun _ => False) rfl rfl ?aP (fun _ hk => hk.elim) ?aF ?aO ?aB ?aS ?aL ?_; (case aP => exact k33_mkM _ _ _ (⟨(rd l2 (ji13)), (⟨x11_3, x10_2, x14_21, x15_6⟩ : S29)⟩ : S33)); (case aB => exact (by repeat (first | (with_reducible first | exact HB.out | apply below_alloc | apply pw_below_drewN | apply below_drew1) | exact HB.out))); (case aF => exact (fun _ _ => trivial)); (case aO => exact (by (with_reducible repeat (first | apply Kd.R_alloc | apply Kd.R_drewN | apply Kd.R_drew)); exact HO_9.out)); (case aS => exact (below_size (by repeat (first | (with_reducible first | exact HB.out | apply below_alloc | apply pw_below_drewN | apply below_drew1) | exact HB.out)))); (case aL => have := LMc35.out; omega); intro v206 w36 ho hb hg hat; rw [← Ny205.out] at ho; have n0_ := Aside0.mk (hb); have n1_ := Aside0.mk (ho); clear HB; clear HO_9; have HB := n0_; have HO207 := n1_; clear n0_ n1_; clear ho hb hg hat))
                                          go_roundg k6
                                          case measure => have := HJ4.out; have := HK2.out; have := HK3.out; have := HJ16.out; have := HJ21.out; have := HK6.out; omega
                                          case rel => exact ⟨(y205), (wrap64 (x11_3 + 1)), (by first | rfl | (simp; done) | (simp [*]; done)), H', ⟨by have := HJ4.out; have := HK2.out; have := HK3.out; have := HJ16.out; have := HJ21.out; have := HK6.out; omega⟩, ⟨by (with_reducible repeat (first | apply Kd.R_alloc | apply Kd.R_drewN | apply Kd.R_drew)); exact HO207.out⟩, ⟨by repeat (first | (with_reducible first | exact HB.out | apply below_alloc | apply pw_below_drewN | apply below_drew1) | exact HB.out)⟩⟩
                                        · rw [if_neg c35] at H
                                          exact absurd H (by simp)
                      · rw [if_neg c15] at H
                        exact absurd H (by simp)
                    · rw [if_neg c14] at H
                      exact absurd H (by simp)
                  · rw [if_neg c12] at H
                    have c12b0 : decide (x11_3 < a0) = false := decide_eq_false c12
                    clear c12
                    have H' := Aside0.mk H
                    clear H
                    go_wp2
                    go_roundg k3
                    case measure => have := HJ4.out; have := HK2.out; have := HK3.out; omega
                    case rel => exact ⟨(x9_3), (wrap64 (x10_2 + 1)), (by first | rfl | (simp; done) | (simp [*]; done)), H', ⟨by have := HJ4.out; have := HK2.out; have := HK3.out; omega⟩, ⟨by (with_reducible repeat (first | apply Kd.R_alloc | apply Kd.R_drewN | apply Kd.R_drew)); exact HO_9.out⟩, ⟨by repeat (first | (with_reducible first | exact HB.out | apply below_alloc | apply pw_below_drewN | apply below_drew1) | exact HB.out)⟩⟩
            · rw [if_neg c11] at H
              have c11b0 : decide (x10_2 < a1) = false := decide_eq_false c11
              clear c11
              obtain rfl := Option.some.inj H
              go_wp2
              go_ret
              exact ⟨_, by first | rfl | (simp [errW_none, errW_some] <;> rfl) | (simp [*, errW_none, errW_some] <;> rfl), by (with_reducible repeat (first | apply Kd.R_alloc | apply Kd.R_drewN | apply Kd.R_drew)); exact HO_9.out, by repeat (first | (with_reducible first | exact HB.out | apply below_alloc | apply pw_below_drewN | apply below_drew1) | exact HB.out)⟩

end Go.Proofs.Ytkmfhfejogjnfaa.X
