/- What each Go function that these laws use answers: as a Lean function, with the proof that the machine's call comes to it. Written by a program of this session (xprint.py). -/
import Derived.Test.YtkmfhfejogjnfaaXx0
import Derived.Test.YtkmfhfejogjnfaaXx5
import Derived.Test.YtkmfhfejogjnfaaXx29
import Derived.Test.YtkmfhfejogjnfaaXx43s
namespace Go.Proofs.Ytkmfhfejogjnfaa.X
open Go.RowKit Go.Proofs.YtkmfhfejogjnfaaW.PrintWords Go.Proofs.YtkmfhfejogjnfaaW.PrintLast Go.Proofs.YtkmfhfejogjnfaaW.PrintMore
attribute [local go_sem] max2_int min2_int max_two min_two max_three min_three max_four min_four   -- for this text's walks alone
set_option linter.unusedVariables false
set_option linter.unusedSimpArgs false

/-! ### miradorlaw17_RreCovers: function 7 -/
mutual
def miradorlaw17_RreCovers.j0 : Nat → Int → Int → List Int → Int → Int → Int → Bool → Bool → Option (Bool)
  | 0, _, _, _, _, _, _, _, _ => none
  | k + 1, x0, x1, x2, x3, x4, x5, x13, x50 => if x50 = true then (some x13) else ((rre_Pieces.f x0 x1 x2 x3).bind fun t446 => (miradorlaw17_RreCovers.l0 k x0 x1 x2 x3 x4 x5 x13 t446 0 0))
def miradorlaw17_RreCovers.l0 : Nat → Int → Int → List Int → Int → Int → Int → Bool → List (S31) → Int → Int → Option (Bool)
  | 0, _, _, _, _, _, _, _, _, _, _ => none
  | k + 1, x0, x1, x2, x3, x4, x5, x13, x14, x15, x16 => if x16 < (x14.length : Int) then (if 0 ≤ x16 then (if ((rd_T31 x14 x16).f1.f2) < 1 then (miradorlaw17_RreCovers.j2 k x0 x1 x2 x3 x4 x5 x13 x14 x15 x16 true ((rd_T31 x14 x16).f1.f0) ((rd_T31 x14 x16).f1.f1) ((rd_T31 x14 x16).f1.f2) ((rd_T31 x14 x16).f1.f3)) else (if ((rd_T31 x14 x16).f1.f3) < 1 then (miradorlaw17_RreCovers.j2 k x0 x1 x2 x3 x4 x5 x13 x14 x15 x16 true ((rd_T31 x14 x16).f1.f0) ((rd_T31 x14 x16).f1.f1) ((rd_T31 x14 x16).f1.f2) ((rd_T31 x14 x16).f1.f3)) else (if ((rd_T31 x14 x16).f1.f0) < 0 then (miradorlaw17_RreCovers.j2 k x0 x1 x2 x3 x4 x5 x13 x14 x15 x16 true ((rd_T31 x14 x16).f1.f0) ((rd_T31 x14 x16).f1.f1) ((rd_T31 x14 x16).f1.f2) ((rd_T31 x14 x16).f1.f3)) else (if ((rd_T31 x14 x16).f1.f1) < 0 then (miradorlaw17_RreCovers.j2 k x0 x1 x2 x3 x4 x5 x13 x14 x15 x16 true ((rd_T31 x14 x16).f1.f0) ((rd_T31 x14 x16).f1.f1) ((rd_T31 x14 x16).f1.f2) ((rd_T31 x14 x16).f1.f3)) else (if (wrap64 (((rd_T31 x14 x16).f1.f0) + ((rd_T31 x14 x16).f1.f2))) > x0 then (miradorlaw17_RreCovers.j2 k x0 x1 x2 x3 x4 x5 x13 x14 x15 x16 true ((rd_T31 x14 x16).f1.f0) ((rd_T31 x14 x16).f1.f1) ((rd_T31 x14 x16).f1.f2) ((rd_T31 x14 x16).f1.f3)) else (miradorlaw17_RreCovers.j2 k x0 x1 x2 x3 x4 x5 x13 x14 x15 x16 (decide ((wrap64 (((rd_T31 x14 x16).f1.f1) + ((rd_T31 x14 x16).f1.f3))) > x1)) ((rd_T31 x14 x16).f1.f0) ((rd_T31 x14 x16).f1.f1) ((rd_T31 x14 x16).f1.f2) ((rd_T31 x14 x16).f1.f3))))))) else (none)) else (if x13 = true then (if 0 ≤ (wrap64 ((wrap64 (x5 * x0)) + x4)) then (if (wrap64 ((wrap64 (x5 * x0)) + x4)) < (x2.length : Int) then (if ((x15 == 1) == ((rd x2 (wrap64 ((wrap64 (x5 * x0)) + x4))) != x3)) = true then (some (decide (x15 ≤ 1))) else (some false)) else (none)) else (none)) else (some false))
def miradorlaw17_RreCovers.j2 : Nat → Int → Int → List Int → Int → Int → Int → Bool → List (S31) → Int → Int → Bool → Int → Int → Int → Int → Option (Bool)
  | 0, _, _, _, _, _, _, _, _, _, _, _, _, _, _, _ => none
  | k + 1, x0, x1, x2, x3, x4, x5, x13, x14, x15, x16, x103, x452000, x452001, x452002, x452003 => if x103 = true then (some false) else (if x4 ≥ x452000 then (if x4 < (wrap64 (x452000 + x452002)) then (if x5 ≥ x452001 then (miradorlaw17_RreCovers.j3 k x0 x1 x2 x3 x4 x5 x13 x14 x15 x16 (decide (x5 < (wrap64 (x452001 + x452003))))) else (miradorlaw17_RreCovers.j3 k x0 x1 x2 x3 x4 x5 x13 x14 x15 x16 false)) else (miradorlaw17_RreCovers.j3 k x0 x1 x2 x3 x4 x5 x13 x14 x15 x16 false)) else (miradorlaw17_RreCovers.j3 k x0 x1 x2 x3 x4 x5 x13 x14 x15 x16 false))
def miradorlaw17_RreCovers.j3 : Nat → Int → Int → List Int → Int → Int → Int → Bool → List (S31) → Int → Int → Bool → Option (Bool)
  | 0, _, _, _, _, _, _, _, _, _, _, _ => none
  | k + 1, x0, x1, x2, x3, x4, x5, x13, x14, x15, x16, x131 => if x131 = true then (if 0 ≤ x16 then (if x16 < (x14.length : Int) then (if 0 ≤ (wrap64 ((wrap64 (x5 * x0)) + x4)) then (if (wrap64 ((wrap64 (x5 * x0)) + x4)) < (x2.length : Int) then (if ((rd_T31 x14 x16).f0) = (rd x2 (wrap64 ((wrap64 (x5 * x0)) + x4))) then (miradorlaw17_RreCovers.l0 k x0 x1 x2 x3 x4 x5 x13 x14 (wrap64 (x15 + 1)) (wrap64 (x16 + 1))) else (some false)) else (none)) else (none)) else (none)) else (none)) else (miradorlaw17_RreCovers.l0 k x0 x1 x2 x3 x4 x5 x13 x14 x15 (wrap64 (x16 + 1)))
end
def miradorlaw17_RreCovers.f (k : Nat) (a0 : Int) (a1 : Int) (l2 : List Int) (a3 : Int) (a4 : Int) (a5 : Int) : Option (Bool) := (miradorlaw17_works.f k).bind fun t444 => (if t444 = true then ((miradorlaw17_small.f a0 a1).bind fun t445 => (if t445 = true then (if (l2.length : Int) = (wrap64 (a0 * a1)) then (if a4 < 0 then (miradorlaw17_RreCovers.j0 k a0 a1 l2 a3 a4 a5 t444 true) else (if a5 < 0 then (miradorlaw17_RreCovers.j0 k a0 a1 l2 a3 a4 a5 t444 true) else (if a4 ≥ a0 then (miradorlaw17_RreCovers.j0 k a0 a1 l2 a3 a4 a5 t444 true) else (miradorlaw17_RreCovers.j0 k a0 a1 l2 a3 a4 a5 t444 (decide (a5 ≥ a1)))))) else (miradorlaw17_RreCovers.j0 k a0 a1 l2 a3 a4 a5 t444 true)) else (miradorlaw17_RreCovers.j0 k a0 a1 l2 a3 a4 a5 t444 true))) else (some false))
theorem miradorlaw17_RreCovers.mono_l : ∀ k, (∀ y0 y1 y2 y3 y4 y5 y6 y7, LeO (miradorlaw17_RreCovers.j0 k y0 y1 y2 y3 y4 y5 y6 y7) (miradorlaw17_RreCovers.j0 (k + 1) y0 y1 y2 y3 y4 y5 y6 y7)) ∧ (∀ y0 y1 y2 y3 y4 y5 y6 y7 y8 y9, LeO (miradorlaw17_RreCovers.l0 k y0 y1 y2 y3 y4 y5 y6 y7 y8 y9) (miradorlaw17_RreCovers.l0 (k + 1) y0 y1 y2 y3 y4 y5 y6 y7 y8 y9)) ∧ (∀ y0 y1 y2 y3 y4 y5 y6 y7 y8 y9 y10 y11 y12 y13 y14, LeO (miradorlaw17_RreCovers.j2 k y0 y1 y2 y3 y4 y5 y6 y7 y8 y9 y10 y11 y12 y13 y14) (miradorlaw17_RreCovers.j2 (k + 1) y0 y1 y2 y3 y4 y5 y6 y7 y8 y9 y10 y11 y12 y13 y14)) ∧ (∀ y0 y1 y2 y3 y4 y5 y6 y7 y8 y9 y10, LeO (miradorlaw17_RreCovers.j3 k y0 y1 y2 y3 y4 y5 y6 y7 y8 y9 y10) (miradorlaw17_RreCovers.j3 (k + 1) y0 y1 y2 y3 y4 y5 y6 y7 y8 y9 y10))
  | 0 => ⟨fun _ _ _ _ _ _ _ _ r h => by simp [miradorlaw17_RreCovers.j0] at h, fun _ _ _ _ _ _ _ _ _ _ r h => by simp [miradorlaw17_RreCovers.l0] at h, fun _ _ _ _ _ _ _ _ _ _ _ _ _ _ _ r h => by simp [miradorlaw17_RreCovers.j2] at h, fun _ _ _ _ _ _ _ _ _ _ _ r h => by simp [miradorlaw17_RreCovers.j3] at h⟩
  | k + 1 => by
    obtain ⟨ih0, ih1, ih2, ih3⟩ := miradorlaw17_RreCovers.mono_l k
    refine ⟨?_, ?_, ?_, ?_⟩
    · intro y0 y1 y2 y3 y4 y5 y6 y7
      unfold miradorlaw17_RreCovers.j0
      repeat' first
      | (with_reducible exact ih0 _ _ _ _ _ _ _ _)
      | (with_reducible exact ih1 _ _ _ _ _ _ _ _ _ _)
      | (with_reducible exact ih2 _ _ _ _ _ _ _ _ _ _ _ _ _ _ _)
      | (with_reducible exact ih3 _ _ _ _ _ _ _ _ _ _ _)
      | (with_reducible exact miradorlaw17_works.mono _)
      | (with_reducible exact LeO.refl _)
      | (with_reducible exact LeO.none _)
      | (with_reducible refine LeO.ite ?_ ?_)
      | (with_reducible refine LeO.bind ?_ (fun _ => ?_))
      | exact ih0 _ _ _ _ _ _ _ _
      | exact ih1 _ _ _ _ _ _ _ _ _ _
      | exact ih2 _ _ _ _ _ _ _ _ _ _ _ _ _ _ _
      | exact ih3 _ _ _ _ _ _ _ _ _ _ _
      | exact miradorlaw17_works.mono _
      | exact LeO.none _
      | refine LeO.ite ?_ ?_
      | refine LeO.bind ?_ (fun _ => ?_)
    · intro y0 y1 y2 y3 y4 y5 y6 y7 y8 y9
      unfold miradorlaw17_RreCovers.l0
      repeat' first
      | (with_reducible exact ih0 _ _ _ _ _ _ _ _)
      | (with_reducible exact ih1 _ _ _ _ _ _ _ _ _ _)
      | (with_reducible exact ih2 _ _ _ _ _ _ _ _ _ _ _ _ _ _ _)
      | (with_reducible exact ih3 _ _ _ _ _ _ _ _ _ _ _)
      | (with_reducible exact miradorlaw17_works.mono _)
      | (with_reducible exact LeO.refl _)
      | (with_reducible exact LeO.none _)
      | (with_reducible refine LeO.ite ?_ ?_)
      | (with_reducible refine LeO.bind ?_ (fun _ => ?_))
      | exact ih0 _ _ _ _ _ _ _ _
      | exact ih1 _ _ _ _ _ _ _ _ _ _
      | exact ih2 _ _ _ _ _ _ _ _ _ _ _ _ _ _ _
      | exact ih3 _ _ _ _ _ _ _ _ _ _ _
      | exact miradorlaw17_works.mono _
      | exact LeO.none _
      | refine LeO.ite ?_ ?_
      | refine LeO.bind ?_ (fun _ => ?_)
    · intro y0 y1 y2 y3 y4 y5 y6 y7 y8 y9 y10 y11 y12 y13 y14
      unfold miradorlaw17_RreCovers.j2
      repeat' first
      | (with_reducible exact ih0 _ _ _ _ _ _ _ _)
      | (with_reducible exact ih1 _ _ _ _ _ _ _ _ _ _)
      | (with_reducible exact ih2 _ _ _ _ _ _ _ _ _ _ _ _ _ _ _)
      | (with_reducible exact ih3 _ _ _ _ _ _ _ _ _ _ _)
      | (with_reducible exact miradorlaw17_works.mono _)
      | (with_reducible exact LeO.refl _)
      | (with_reducible exact LeO.none _)
      | (with_reducible refine LeO.ite ?_ ?_)
      | (with_reducible refine LeO.bind ?_ (fun _ => ?_))
      | exact ih0 _ _ _ _ _ _ _ _
      | exact ih1 _ _ _ _ _ _ _ _ _ _
      | exact ih2 _ _ _ _ _ _ _ _ _ _ _ _ _ _ _
      | exact ih3 _ _ _ _ _ _ _ _ _ _ _
      | exact miradorlaw17_works.mono _
      | exact LeO.none _
      | refine LeO.ite ?_ ?_
      | refine LeO.bind ?_ (fun _ => ?_)
    · intro y0 y1 y2 y3 y4 y5 y6 y7 y8 y9 y10
      unfold miradorlaw17_RreCovers.j3
      repeat' first
      | (with_reducible exact ih0 _ _ _ _ _ _ _ _)
      | (with_reducible exact ih1 _ _ _ _ _ _ _ _ _ _)
      | (with_reducible exact ih2 _ _ _ _ _ _ _ _ _ _ _ _ _ _ _)
      | (with_reducible exact ih3 _ _ _ _ _ _ _ _ _ _ _)
      | (with_reducible exact miradorlaw17_works.mono _)
      | (with_reducible exact LeO.refl _)
      | (with_reducible exact LeO.none _)
      | (with_reducible refine LeO.ite ?_ ?_)
      | (with_reducible refine LeO.bind ?_ (fun _ => ?_))
      | exact ih0 _ _ _ _ _ _ _ _
      | exact ih1 _ _ _ _ _ _ _ _ _ _
      | exact ih2 _ _ _ _ _ _ _ _ _ _ _ _ _ _ _
      | exact ih3 _ _ _ _ _ _ _ _ _ _ _
      | exact miradorlaw17_works.mono _
      | exact LeO.none _
      | refine LeO.ite ?_ ?_
      | refine LeO.bind ?_ (fun _ => ?_)
theorem miradorlaw17_RreCovers.mono : ∀ a0 a1 a2 a3 a4 a5 k, LeO (miradorlaw17_RreCovers.f k a0 a1 a2 a3 a4 a5) (miradorlaw17_RreCovers.f (k + 1) a0 a1 a2 a3 a4 a5) := by
  intro a0 a1 a2 a3 a4 a5 k
  obtain ⟨ih0, ih1, ih2, ih3⟩ := miradorlaw17_RreCovers.mono_l k
  unfold miradorlaw17_RreCovers.f
  repeat' first
      | (with_reducible exact ih0 _ _ _ _ _ _ _ _)
      | (with_reducible exact ih1 _ _ _ _ _ _ _ _ _ _)
      | (with_reducible exact ih2 _ _ _ _ _ _ _ _ _ _ _ _ _ _ _)
      | (with_reducible exact ih3 _ _ _ _ _ _ _ _ _ _ _)
      | (with_reducible exact miradorlaw17_works.mono _)
      | (with_reducible exact LeO.refl _)
      | (with_reducible exact LeO.none _)
      | (with_reducible refine LeO.ite ?_ ?_)
      | (with_reducible refine LeO.bind ?_ (fun _ => ?_))
      | exact ih0 _ _ _ _ _ _ _ _
      | exact ih1 _ _ _ _ _ _ _ _ _ _
      | exact ih2 _ _ _ _ _ _ _ _ _ _ _ _ _ _ _
      | exact ih3 _ _ _ _ _ _ _ _ _ _ _
      | exact miradorlaw17_works.mono _
      | exact LeO.none _
      | refine LeO.ite ?_ ?_
      | refine LeO.bind ?_ (fun _ => ?_)
set_option maxHeartbeats 8000000 in
set_option maxRecDepth 100000 in
theorem miradorlaw17_RreCovers.calls1 (k : Nat) (a0 : Int) (a1 : Int) (A2 : Option Addr) (c2 : Nat) (l2 : List Int) (a3 : Int) (a4 : Int) (a5 : Int) (r : Bool) (w : World) (hr2 : Kd.C (Kd.int .i64) w A2 l2.length l2) (hc2 : l2.length ≤ c2) (hr_ : r = true) (h : miradorlaw17_RreCovers.f k a0 a1 l2 a3 a4 a5 = some r) :
    Calls Try.prog 7 #[.int .i64 a0, .int .i64 a1, .slice A2 l2.length c2, .int .i64 a3, .int .i64 a4, .int .i64 a5] w fun e w' => e = .returned (.bool r) ∧ Below w.heap.size w w' := by
  have hu29 := Try.underlying29
  have HR2 := Aside0.mk hr2
  have HC2 := Aside0.mk hc2
  clear hr2 hc2
  have HB := Aside0.mk (Below.refl w.heap.size w)
  have H : ((miradorlaw17_works.f k).bind fun t444 => (if t444 = true then ((miradorlaw17_small.f a0 a1).bind fun t445 => (if t445 = true then (if (l2.length : Int) = (wrap64 (a0 * a1)) then (if a4 < 0 then (miradorlaw17_RreCovers.j0 k a0 a1 l2 a3 a4 a5 t444 true) else (if a5 < 0 then (miradorlaw17_RreCovers.j0 k a0 a1 l2 a3 a4 a5 t444 true) else (if a4 ≥ a0 then (miradorlaw17_RreCovers.j0 k a0 a1 l2 a3 a4 a5 t444 true) else (miradorlaw17_RreCovers.j0 k a0 a1 l2 a3 a4 a5 t444 (decide (a5 ≥ a1)))))) else (miradorlaw17_RreCovers.j0 k a0 a1 l2 a3 a4 a5 t444 true)) else (miradorlaw17_RreCovers.j0 k a0 a1 l2 a3 a4 a5 t444 true))) else (some false))) = some r := h
  clear h
  have HRT := Aside0.mk hr_
  clear hr_
  replace H := Option.bind_eq_some_iff.mp H
  obtain ⟨t444, A70, H⟩ := H
  replace H : (if t444 = true then ((miradorlaw17_small.f a0 a1).bind fun t445 => (if t445 = true then (if (l2.length : Int) = (wrap64 (a0 * a1)) then (if a4 < 0 then (miradorlaw17_RreCovers.j0 k a0 a1 l2 a3 a4 a5 t444 true) else (if a5 < 0 then (miradorlaw17_RreCovers.j0 k a0 a1 l2 a3 a4 a5 t444 true) else (if a4 ≥ a0 then (miradorlaw17_RreCovers.j0 k a0 a1 l2 a3 a4 a5 t444 true) else (miradorlaw17_RreCovers.j0 k a0 a1 l2 a3 a4 a5 t444 (decide (a5 ≥ a1)))))) else (miradorlaw17_RreCovers.j0 k a0 a1 l2 a3 a4 a5 t444 true)) else (miradorlaw17_RreCovers.j0 k a0 a1 l2 a3 a4 a5 t444 true))) else (some false)) = some r := H
  have A7 := Aside0.mk A70
  clear A70
  by_cases c8 : t444 = true
  · subst c8
    have H1 : ((miradorlaw17_small.f a0 a1).bind fun t445 => (if t445 = true then (if (l2.length : Int) = (wrap64 (a0 * a1)) then (if a4 < 0 then (miradorlaw17_RreCovers.j0 k a0 a1 l2 a3 a4 a5 true true) else (if a5 < 0 then (miradorlaw17_RreCovers.j0 k a0 a1 l2 a3 a4 a5 true true) else (if a4 ≥ a0 then (miradorlaw17_RreCovers.j0 k a0 a1 l2 a3 a4 a5 true true) else (miradorlaw17_RreCovers.j0 k a0 a1 l2 a3 a4 a5 true (decide (a5 ≥ a1)))))) else (miradorlaw17_RreCovers.j0 k a0 a1 l2 a3 a4 a5 true true)) else (miradorlaw17_RreCovers.j0 k a0 a1 l2 a3 a4 a5 true true))) = some r := by rw [if_pos rfl] at H; exact H
    clear H
    have H := H1
    clear H1
    have HC9 := Aside0.mk H
    clear H
    go_enter Try.func7, Try.ntmps7
    go_upto_region 4 with (first | (go_at_call 9; (with_reducible refine (miradorlaw17_works.calls k  true _ A7.out).mono ?_); rintro e w10 ⟨rfl, hb⟩; have n0_ := Aside0.mk (below_step (by repeat (first | (with_reducible first | exact HB.out | apply below_alloc | apply pw_below_drewN | apply below_drew1) | exact HB.out)) hb); clear HB; have HB := n0_; clear n0_; (try clear hb); (try clear hb2); (try clear hk); (try clear hi)))
    repeat (go_quiet (first | (go_at_call 9; (with_reducible refine (miradorlaw17_works.calls k  true _ A7.out).mono ?_); rintro e w10 ⟨rfl, hb⟩; have n0_ := Aside0.mk (below_step (by repeat (first | (with_reducible first | exact HB.out | apply below_alloc | apply pw_below_drewN | apply below_drew1) | exact HB.out)) hb); clear HB; have HB := n0_; clear n0_; (try clear hb); (try clear hb2); (try clear hk); (try clear hi))); go_upto_region 4 with (first | (go_at_call 9; (with_reducible refine (miradorlaw17_works.calls k  true _ A7.out).mono ?_); rintro e w10 ⟨rfl, hb⟩; have n0_ := Aside0.mk (below_step (by repeat (first | (with_reducible first | exact HB.out | apply below_alloc | apply pw_below_drewN | apply below_drew1) | exact HB.out)) hb); clear HB; have HB := n0_; clear n0_; (try clear hb); (try clear hb2); (try clear hk); (try clear hi))))
    (try simp only [Act.put, List.setIfInBounds_toArray, List.set_cons_zero, List.set_cons_succ])
    go_cut [50] (fun v50 wc => ∃ (kq : Nat) (x50_8 : Bool), v50 = .bool x50_8 ∧ Aside0 (miradorlaw17_RreCovers.j0 kq a0 a1 l2 a3 a4 a5 true x50_8 = some r) ∧ Aside0 (kq ≤ k) ∧ Aside0 (Below w.heap.size w wc))
    case first =>
      have H := HC9.out
      clear HC9
      replace H := Option.bind_eq_some_iff.mp H
      obtain ⟨t445, A110, H⟩ := H
      replace H : (if t445 = true then (if (l2.length : Int) = (wrap64 (a0 * a1)) then (if a4 < 0 then (miradorlaw17_RreCovers.j0 k a0 a1 l2 a3 a4 a5 true true) else (if a5 < 0 then (miradorlaw17_RreCovers.j0 k a0 a1 l2 a3 a4 a5 true true) else (if a4 ≥ a0 then (miradorlaw17_RreCovers.j0 k a0 a1 l2 a3 a4 a5 true true) else (miradorlaw17_RreCovers.j0 k a0 a1 l2 a3 a4 a5 true (decide (a5 ≥ a1)))))) else (miradorlaw17_RreCovers.j0 k a0 a1 l2 a3 a4 a5 true true)) else (miradorlaw17_RreCovers.j0 k a0 a1 l2 a3 a4 a5 true true)) = some r := H
      have A11 := Aside0.mk A110
      clear A110
      by_cases c12 : t445 = true
      · subst c12
        have H1 : (if (l2.length : Int) = (wrap64 (a0 * a1)) then (if a4 < 0 then (miradorlaw17_RreCovers.j0 k a0 a1 l2 a3 a4 a5 true true) else (if a5 < 0 then (miradorlaw17_RreCovers.j0 k a0 a1 l2 a3 a4 a5 true true) else (if a4 ≥ a0 then (miradorlaw17_RreCovers.j0 k a0 a1 l2 a3 a4 a5 true true) else (miradorlaw17_RreCovers.j0 k a0 a1 l2 a3 a4 a5 true (decide (a5 ≥ a1)))))) else (miradorlaw17_RreCovers.j0 k a0 a1 l2 a3 a4 a5 true true)) = some r := by rw [if_pos rfl] at H; exact H
        clear H
        have H := H1
        clear H1
        by_cases c13 : (l2.length : Int) = (wrap64 (a0 * a1))
        · rw [if_pos c13] at H
          have c13b0 : ((l2.length : Int) == (wrap64 (a0 * a1))) = true := beq_iff_eq.mpr c13
          have c13b1 : ((l2.length : Int) != (wrap64 (a0 * a1))) = false := bne_eq_false_iff_eq.mpr c13
          clear c13
          (first | rw [c13b0] | (simp only [i64_w, i32_w]; rw [c13b0]) | skip)
          by_cases c14 : a4 < 0
          · rw [if_pos c14] at H
            have c14b0 : decide (a4 < 0) = true := decide_eq_true c14
            clear c14
            have H' := Aside0.mk H
            clear H
            go_wp2_with (first | (go_at_call 17; (with_reducible refine (miradorlaw17_small.calls a0 a1 true _ A11.out).mono ?_); rintro e w' ⟨rfl, ⟨nd, rfl⟩⟩; (try first | exact ⟨rfl, _, World.drewN_drewN _ _ _⟩ | exact ⟨rfl, _, Eq.trans (World.drewN_drewN _ _ _) (congrArg (World.drewN _) (Nat.add_assoc _ _ _))⟩)))
            repeat (go_quiet (first | (go_at_call 17; (with_reducible refine (miradorlaw17_small.calls a0 a1 true _ A11.out).mono ?_); rintro e w' ⟨rfl, ⟨nd, rfl⟩⟩; (try first | exact ⟨rfl, _, World.drewN_drewN _ _ _⟩ | exact ⟨rfl, _, Eq.trans (World.drewN_drewN _ _ _) (congrArg (World.drewN _) (Nat.add_assoc _ _ _))⟩))); try go_wp2_with (first | (go_at_call 17; (with_reducible refine (miradorlaw17_small.calls a0 a1 true _ A11.out).mono ?_); rintro e w' ⟨rfl, ⟨nd, rfl⟩⟩; (try first | exact ⟨rfl, _, World.drewN_drewN _ _ _⟩ | exact ⟨rfl, _, Eq.trans (World.drewN_drewN _ _ _) (congrArg (World.drewN _) (Nat.add_assoc _ _ _))⟩))))
            go_meet
            case rel => exact ⟨_, (true), (by first | rfl | (simp; done) | (simp [*]; done)), H', ⟨by first | omega | exact Nat.le_refl _⟩, ⟨by repeat (first | (with_reducible first | exact HB.out | apply below_alloc | apply pw_below_drewN | apply below_drew1) | exact HB.out)⟩⟩
          · rw [if_neg c14] at H
            have c14b0 : decide (a4 < 0) = false := decide_eq_false c14
            clear c14
            by_cases c15 : a5 < 0
            · rw [if_pos c15] at H
              have c15b0 : decide (a5 < 0) = true := decide_eq_true c15
              clear c15
              have H' := Aside0.mk H
              clear H
              go_wp2_with (first | (go_at_call 17; (with_reducible refine (miradorlaw17_small.calls a0 a1 true _ A11.out).mono ?_); rintro e w' ⟨rfl, ⟨nd, rfl⟩⟩; (try first | exact ⟨rfl, _, World.drewN_drewN _ _ _⟩ | exact ⟨rfl, _, Eq.trans (World.drewN_drewN _ _ _) (congrArg (World.drewN _) (Nat.add_assoc _ _ _))⟩)))
              repeat (go_quiet (first | (go_at_call 17; (with_reducible refine (miradorlaw17_small.calls a0 a1 true _ A11.out).mono ?_); rintro e w' ⟨rfl, ⟨nd, rfl⟩⟩; (try first | exact ⟨rfl, _, World.drewN_drewN _ _ _⟩ | exact ⟨rfl, _, Eq.trans (World.drewN_drewN _ _ _) (congrArg (World.drewN _) (Nat.add_assoc _ _ _))⟩))); try go_wp2_with (first | (go_at_call 17; (with_reducible refine (miradorlaw17_small.calls a0 a1 true _ A11.out).mono ?_); rintro e w' ⟨rfl, ⟨nd, rfl⟩⟩; (try first | exact ⟨rfl, _, World.drewN_drewN _ _ _⟩ | exact ⟨rfl, _, Eq.trans (World.drewN_drewN _ _ _) (congrArg (World.drewN _) (Nat.add_assoc _ _ _))⟩))))
              go_meet
              case rel => exact ⟨_, (true), (by first | rfl | (simp; done) | (simp [*]; done)), H', ⟨by first | omega | exact Nat.le_refl _⟩, ⟨by repeat (first | (with_reducible first | exact HB.out | apply below_alloc | apply pw_below_drewN | apply below_drew1) | exact HB.out)⟩⟩
            · rw [if_neg c15] at H
              have c15b0 : decide (a5 < 0) = false := decide_eq_false c15
              clear c15
              by_cases c16 : a4 ≥ a0
              · rw [if_pos c16] at H
                have c16b0 : decide (a0 ≤ a4) = true := decide_eq_true c16
                clear c16
                have H' := Aside0.mk H
                clear H
                go_wp2_with (first | (go_at_call 17; (with_reducible refine (miradorlaw17_small.calls a0 a1 true _ A11.out).mono ?_); rintro e w' ⟨rfl, ⟨nd, rfl⟩⟩; (try first | exact ⟨rfl, _, World.drewN_drewN _ _ _⟩ | exact ⟨rfl, _, Eq.trans (World.drewN_drewN _ _ _) (congrArg (World.drewN _) (Nat.add_assoc _ _ _))⟩)))
                repeat (go_quiet (first | (go_at_call 17; (with_reducible refine (miradorlaw17_small.calls a0 a1 true _ A11.out).mono ?_); rintro e w' ⟨rfl, ⟨nd, rfl⟩⟩; (try first | exact ⟨rfl, _, World.drewN_drewN _ _ _⟩ | exact ⟨rfl, _, Eq.trans (World.drewN_drewN _ _ _) (congrArg (World.drewN _) (Nat.add_assoc _ _ _))⟩))); try go_wp2_with (first | (go_at_call 17; (with_reducible refine (miradorlaw17_small.calls a0 a1 true _ A11.out).mono ?_); rintro e w' ⟨rfl, ⟨nd, rfl⟩⟩; (try first | exact ⟨rfl, _, World.drewN_drewN _ _ _⟩ | exact ⟨rfl, _, Eq.trans (World.drewN_drewN _ _ _) (congrArg (World.drewN _) (Nat.add_assoc _ _ _))⟩))))
                go_meet
                case rel => exact ⟨_, (true), (by first | rfl | (simp; done) | (simp [*]; done)), H', ⟨by first | omega | exact Nat.le_refl _⟩, ⟨by repeat (first | (with_reducible first | exact HB.out | apply below_alloc | apply pw_below_drewN | apply below_drew1) | exact HB.out)⟩⟩
              · rw [if_neg c16] at H
                have c16b0 : decide (a0 ≤ a4) = false := decide_eq_false c16
                clear c16
                have H' := Aside0.mk H
                clear H
                go_wp2_with (first | (go_at_call 17; (with_reducible refine (miradorlaw17_small.calls a0 a1 true _ A11.out).mono ?_); rintro e w' ⟨rfl, ⟨nd, rfl⟩⟩; (try first | exact ⟨rfl, _, World.drewN_drewN _ _ _⟩ | exact ⟨rfl, _, Eq.trans (World.drewN_drewN _ _ _) (congrArg (World.drewN _) (Nat.add_assoc _ _ _))⟩)))
                repeat (go_quiet (first | (go_at_call 17; (with_reducible refine (miradorlaw17_small.calls a0 a1 true _ A11.out).mono ?_); rintro e w' ⟨rfl, ⟨nd, rfl⟩⟩; (try first | exact ⟨rfl, _, World.drewN_drewN _ _ _⟩ | exact ⟨rfl, _, Eq.trans (World.drewN_drewN _ _ _) (congrArg (World.drewN _) (Nat.add_assoc _ _ _))⟩))); try go_wp2_with (first | (go_at_call 17; (with_reducible refine (miradorlaw17_small.calls a0 a1 true _ A11.out).mono ?_); rintro e w' ⟨rfl, ⟨nd, rfl⟩⟩; (try first | exact ⟨rfl, _, World.drewN_drewN _ _ _⟩ | exact ⟨rfl, _, Eq.trans (World.drewN_drewN _ _ _) (congrArg (World.drewN _) (Nat.add_assoc _ _ _))⟩))))
                go_meet
                case rel => exact ⟨_, (decide (a5 ≥ a1)), (by first | rfl | (simp; done) | (simp [*]; done)), H', ⟨by first | omega | exact Nat.le_refl _⟩, ⟨by repeat (first | (with_reducible first | exact HB.out | apply below_alloc | apply pw_below_drewN | apply below_drew1) | exact HB.out)⟩⟩
        · rw [if_neg c13] at H
          have c13b0 : ((l2.length : Int) == (wrap64 (a0 * a1))) = false := beq_eq_false_iff_ne.mpr c13
          have c13b1 : ((l2.length : Int) != (wrap64 (a0 * a1))) = true := bne_iff_ne.mpr c13
          (first | rw [c13b0] | (simp only [i64_w, i32_w]; rw [c13b0]) | skip)
          have H' := Aside0.mk H
          clear H
          go_wp2_with (first | (go_at_call 17; (with_reducible refine (miradorlaw17_small.calls a0 a1 true _ A11.out).mono ?_); rintro e w' ⟨rfl, ⟨nd, rfl⟩⟩; (try first | exact ⟨rfl, _, World.drewN_drewN _ _ _⟩ | exact ⟨rfl, _, Eq.trans (World.drewN_drewN _ _ _) (congrArg (World.drewN _) (Nat.add_assoc _ _ _))⟩)))
          repeat (go_quiet (first | (go_at_call 17; (with_reducible refine (miradorlaw17_small.calls a0 a1 true _ A11.out).mono ?_); rintro e w' ⟨rfl, ⟨nd, rfl⟩⟩; (try first | exact ⟨rfl, _, World.drewN_drewN _ _ _⟩ | exact ⟨rfl, _, Eq.trans (World.drewN_drewN _ _ _) (congrArg (World.drewN _) (Nat.add_assoc _ _ _))⟩))); try go_wp2_with (first | (go_at_call 17; (with_reducible refine (miradorlaw17_small.calls a0 a1 true _ A11.out).mono ?_); rintro e w' ⟨rfl, ⟨nd, rfl⟩⟩; (try first | exact ⟨rfl, _, World.drewN_drewN _ _ _⟩ | exact ⟨rfl, _, Eq.trans (World.drewN_drewN _ _ _) (congrArg (World.drewN _) (Nat.add_assoc _ _ _))⟩))))
          go_meet
          case rel => exact ⟨_, (true), (by first | rfl | (simp; done) | (simp [*]; done)), H', ⟨by first | omega | exact Nat.le_refl _⟩, ⟨by repeat (first | (with_reducible first | exact HB.out | apply below_alloc | apply pw_below_drewN | apply below_drew1) | exact HB.out)⟩⟩
      · replace c12 := Bool.eq_false_iff.mpr c12
        subst c12
        have H1 : (miradorlaw17_RreCovers.j0 k a0 a1 l2 a3 a4 a5 true true) = some r := by rw [if_neg (show ¬ (false = true) by decide)] at H; exact H
        clear H
        have H := H1
        clear H1
        have H' := Aside0.mk H
        clear H
        go_wp2_with (first | (go_at_call 17; (with_reducible refine (miradorlaw17_small.calls a0 a1 false _ A11.out).mono ?_); rintro e w' ⟨rfl, ⟨nd, rfl⟩⟩; (try first | exact ⟨rfl, _, World.drewN_drewN _ _ _⟩ | exact ⟨rfl, _, Eq.trans (World.drewN_drewN _ _ _) (congrArg (World.drewN _) (Nat.add_assoc _ _ _))⟩)))
        repeat (go_quiet (first | (go_at_call 17; (with_reducible refine (miradorlaw17_small.calls a0 a1 false _ A11.out).mono ?_); rintro e w' ⟨rfl, ⟨nd, rfl⟩⟩; (try first | exact ⟨rfl, _, World.drewN_drewN _ _ _⟩ | exact ⟨rfl, _, Eq.trans (World.drewN_drewN _ _ _) (congrArg (World.drewN _) (Nat.add_assoc _ _ _))⟩))); try go_wp2_with (first | (go_at_call 17; (with_reducible refine (miradorlaw17_small.calls a0 a1 false _ A11.out).mono ?_); rintro e w' ⟨rfl, ⟨nd, rfl⟩⟩; (try first | exact ⟨rfl, _, World.drewN_drewN _ _ _⟩ | exact ⟨rfl, _, Eq.trans (World.drewN_drewN _ _ _) (congrArg (World.drewN _) (Nat.add_assoc _ _ _))⟩))))
        go_meet
        case rel => exact ⟨_, (true), (by first | rfl | (simp; done) | (simp [*]; done)), H', ⟨by first | omega | exact Nat.le_refl _⟩, ⟨by repeat (first | (with_reducible first | exact HB.out | apply below_alloc | apply pw_below_drewN | apply below_drew1) | exact HB.out)⟩⟩
    case rest =>
      clear HC9
      try clear c1
      try clear c2
      try clear p2
      try clear p6
      try clear c7
      try clear c8
      try clear c12
      try clear c13
      try clear c13b0
      try clear c13b1
      try clear c14
      try clear c14b0
      try clear c15
      try clear c15b0
      try clear c16
      try clear c16b0
      obtain ⟨kq, x50_8, rfl, HA, HJ8, HB⟩ := hcut
      cases kq with
      | zero => exact absurd HA.out (by simp [miradorlaw17_RreCovers.j0])
      | succ kj8 =>
        have H := HA.out
        clear HA
        simp only [miradorlaw17_RreCovers.j0] at H
        by_cases c17 : x50_8 = true
        · subst c17
          have H1 : (some true) = some r := by rw [if_pos rfl] at H; exact H
          clear H
          have H := H1
          clear H1
          obtain rfl := Option.some.inj H
          go_wp2
          repeat (go_quiet (fail); try go_wp2)
          go_ret
          exact ⟨by first | rfl | (simp [errW_none, errW_some] <;> rfl) | (simp [*, errW_none, errW_some] <;> rfl), by repeat (first | (with_reducible first | exact HB.out | apply below_alloc | apply pw_below_drewN | apply below_drew1) | exact HB.out)⟩
        · replace c17 := Bool.eq_false_iff.mpr c17
          subst c17
          have H1 : ((rre_Pieces.f a0 a1 l2 a3).bind fun t446 => (miradorlaw17_RreCovers.l0 kj8 a0 a1 l2 a3 a4 a5 true t446 0 0)) = some r := by rw [if_neg (show ¬ (false = true) by decide)] at H; exact H
          clear H
          have H := H1
          clear H1
          replace H := Option.bind_eq_some_iff.mp H
          obtain ⟨t446, A180, H⟩ := H
          replace H : (miradorlaw17_RreCovers.l0 kj8 a0 a1 l2 a3 a4 a5 true t446 0 0) = some r := H
          have A18 := Aside0.mk A180
          clear A180
          have H' := Aside0.mk H
          clear H
          go_wp2_with (first | (go_at_call 10; (with_reducible refine (rre_Pieces.calls a0 a1 _ _ l2 a3 t446 _ ?side1 ?side2 A18.out).mono ?_); (case side1 => repeat (first | exact (Kd.C_below HR2.out HB.out) | (with_reducible refine Kd.C_alloc ?_ _) | (with_reducible refine Kd.C_drewN ?_ _) | (with_reducible refine Kd.C_drew ?_))); (case side2 => exact HC2.out); rintro e w19 ⟨v447, rfl, ho0, hb⟩; have n0_ := Aside0.mk (Kd.R_lower ho0 (below_size (by repeat (first | (with_reducible first | exact HB.out | apply below_alloc | apply pw_below_drewN | apply below_drew1) | exact HB.out)))); have n1_ := Aside0.mk (below_step (by repeat (first | (with_reducible first | exact HB.out | apply below_alloc | apply pw_below_drewN | apply below_drew1) | exact HB.out)) hb); clear HB; have HO448 := n0_; have HB := n1_; clear n0_ n1_; (try clear hb); (try clear hb2); (try clear hk); (try clear hi); (try clear ho0)))
          repeat (go_quiet (first | (go_at_call 10; (with_reducible refine (rre_Pieces.calls a0 a1 _ _ l2 a3 t446 _ ?side1 ?side2 A18.out).mono ?_); (case side1 => repeat (first | exact (Kd.C_below HR2.out HB.out) | (with_reducible refine Kd.C_alloc ?_ _) | (with_reducible refine Kd.C_drewN ?_ _) | (with_reducible refine Kd.C_drew ?_))); (case side2 => exact HC2.out); rintro e w19 ⟨v447, rfl, ho0, hb⟩; have n0_ := Aside0.mk (Kd.R_lower ho0 (below_size (by repeat (first | (with_reducible first | exact HB.out | apply below_alloc | apply pw_below_drewN | apply below_drew1) | exact HB.out)))); have n1_ := Aside0.mk (below_step (by repeat (first | (with_reducible first | exact HB.out | apply below_alloc | apply pw_below_drewN | apply below_drew1) | exact HB.out)) hb); clear HB; have HO448 := n0_; have HB := n1_; clear n0_ n1_; (try clear hb); (try clear hb2); (try clear hk); (try clear hi); (try clear ho0))); try go_wp2_with (first | (go_at_call 10; (with_reducible refine (rre_Pieces.calls a0 a1 _ _ l2 a3 t446 _ ?side1 ?side2 A18.out).mono ?_); (case side1 => repeat (first | exact (Kd.C_below HR2.out HB.out) | (with_reducible refine Kd.C_alloc ?_ _) | (with_reducible refine Kd.C_drewN ?_ _) | (with_reducible refine Kd.C_drew ?_))); (case side2 => exact HC2.out); rintro e w19 ⟨v447, rfl, ho0, hb⟩; have n0_ := Aside0.mk (Kd.R_lower ho0 (below_size (by repeat (first | (with_reducible first | exact HB.out | apply below_alloc | apply pw_below_drewN | apply below_drew1) | exact HB.out)))); have n1_ := Aside0.mk (below_step (by repeat (first | (with_reducible first | exact HB.out | apply below_alloc | apply pw_below_drewN | apply below_drew1) | exact HB.out)) hb); clear HB; have HO448 := n0_; have HB := n1_; clear n0_ n1_; (try clear hb); (try clear hb2); (try clear hk); (try clear hi); (try clear ho0))))
          go_loopg [15, 16] kj8 (fun kq v15 v16 w' => ∃ (x15_2 : Int) (x16_2 : Int), v15 = .int .i64 x15_2 ∧ v16 = .int .i64 x16_2 ∧ Aside0 (miradorlaw17_RreCovers.l0 kq a0 a1 l2 a3 a4 a5 true t446 x15_2 x16_2 = some r) ∧ Aside0 (kq ≤ kj8) ∧ Aside0 (Kd.R k31 31 w' w.heap.size (fun _ => True) v447 t446) ∧ Aside0 (Below w.heap.size w w'))
          case atStart => exact ⟨(0), (0), (by first | rfl | (simp; done) | (simp [*]; done)), (by first | rfl | (simp; done) | (simp [*]; done)), H', ⟨Nat.le_refl _⟩, ⟨by (with_reducible repeat (first | apply Kd.R_alloc | apply Kd.R_drewN | apply Kd.R_drew)); exact HO448.out⟩, ⟨by repeat (first | (with_reducible first | exact HB.out | apply below_alloc | apply pw_below_drewN | apply below_drew1) | exact HB.out)⟩⟩
          case round =>
            clear H'
            try clear c1
            try clear c2
            try clear p2
            try clear p6
            try clear c7
            try clear c8
            try clear c12
            try clear c13
            try clear c13b0
            try clear c13b1
            try clear c14
            try clear c14b0
            try clear c15
            try clear c15b0
            try clear c16
            try clear c16b0
            try clear c17
            try clear p2
            try clear p6
            obtain ⟨x15_2, x16_2, rfl, rfl, HA, HK2, HO_14, HB⟩ := hrel
            cases gk with
            | zero => exact absurd HA.out (by simp [miradorlaw17_RreCovers.l0])
            | succ k2 =>
              have H := HA.out
              clear HA
              simp only [miradorlaw17_RreCovers.l0] at H
              by_cases c20 : x16_2 < (t446.length : Int)
              · rw [if_pos c20] at H
                have c20b0 : decide (x16_2 < (t446.length : Int)) = true := decide_eq_true c20
                clear c20
                by_cases c21 : 0 ≤ x16_2
                · rw [if_pos c21] at H
                  have c21b0 : decide (0 ≤ x16_2) = true := decide_eq_true c21
                  clear c21
                  have HC22 := Aside0.mk H
                  clear H
                  obtain ⟨Ao23, co23, eo23⟩ := Kd.R_slice HO_14.out
                  subst eo23
                  have p450 : 0 ≤ (x16_2 : Int) := of_decide_eq_true (by first | (with_reducible assumption) | assumption)
                  have q450 : x16_2 < (t446.length : Int) := of_decide_eq_true (by first | (with_reducible assumption) | assumption)
                  obtain ⟨ad450, e450, hx450_0, hx450_1, hx450_2, hx450_3, hx450_4⟩ := at_T31 (Kd.R_reads' HO_14.out).2.2 x16_2 p450 q450
                  cases e450
                  replace p450 := eq_true p450
                  replace q450 := eq_true q450
                  go_upto_region 12 with (first | ((with_reducible refine gate_dst (N := 17) rfl ?_); (try (refine gate_guard (by rfl) ?_; dsimp only)); refine box_event ?hg (N := 17) ?hd (cs := #[.int .i64 0, .int .i64 0, .int .i64 0, .int .i64 0]) (t := 29) ?hr ?_; (case hd => rfl); (case hg => rfl); (case hr => first | (go_simp; done) | (go_simp; rfl)); intro gb451 hg w24 hbox hb; have n0_ := Aside0.mk (Kd.R_below (by (with_reducible repeat (first | apply Kd.R_alloc | apply Kd.R_drewN | apply Kd.R_drew)); exact HO_14.out) hb); have n1_ := Aside0.mk (below_step (by repeat (first | (with_reducible first | exact HB.out | apply below_alloc | apply pw_below_drewN | apply below_drew1) | exact HB.out)) hb); have n2_ := Aside0.mk (hbox); have n3_ := Aside0.mk ((by rw [hg]; exact (below_size (by repeat (first | (with_reducible first | exact HB.out | apply below_alloc | apply pw_below_drewN | apply below_drew1) | exact HB.out))) : w.heap.size ≤ gb451)); have n4_ := Aside0.mk ((by rw [hg]; exact (below_size (by repeat (first | (with_reducible first | exact HB.out | apply below_alloc | apply pw_below_drewN | apply below_drew1) | exact HB.out))) : w.heap.size ≤ gb451)); clear HO_14; clear HB; have HO_14 := n0_; have HB := n1_; have BK451 := n2_; have GW451 := n3_; have GE451 := n4_; clear n0_ n1_ n2_ n3_ n4_; clear hb hbox hg; have hcz25_0 : w24.cell? ⟨gb451, 0, none⟩ = some (.int .i64 0) := (blk_cell BK451.out 0).trans rfl; have hcz25_1 : w24.cell? ⟨gb451, 1, none⟩ = some (.int .i64 0) := (blk_cell BK451.out 1).trans rfl; have hcz25_2 : w24.cell? ⟨gb451, 2, none⟩ = some (.int .i64 0) := (blk_cell BK451.out 2).trans rfl; have hcz25_3 : w24.cell? ⟨gb451, 3, none⟩ = some (.int .i64 0) := (blk_cell BK451.out 3).trans rfl; have hfz25_0 := blk_frozen BK451.out 0; have hfz25_1 := blk_frozen BK451.out 1; have hfz25_2 := blk_frozen BK451.out 2; have hfz25_3 := blk_frozen BK451.out 3))
                  repeat (go_quiet (first | ((with_reducible refine gate_dst (N := 17) rfl ?_); (try (refine gate_guard (by rfl) ?_; dsimp only)); refine box_event ?hg (N := 17) ?hd (cs := #[.int .i64 0, .int .i64 0, .int .i64 0, .int .i64 0]) (t := 29) ?hr ?_; (case hd => rfl); (case hg => rfl); (case hr => first | (go_simp; done) | (go_simp; rfl)); intro gb451 hg w24 hbox hb; have n0_ := Aside0.mk (Kd.R_below (by (with_reducible repeat (first | apply Kd.R_alloc | apply Kd.R_drewN | apply Kd.R_drew)); exact HO_14.out) hb); have n1_ := Aside0.mk (below_step (by repeat (first | (with_reducible first | exact HB.out | apply below_alloc | apply pw_below_drewN | apply below_drew1) | exact HB.out)) hb); have n2_ := Aside0.mk (hbox); have n3_ := Aside0.mk ((by rw [hg]; exact (below_size (by repeat (first | (with_reducible first | exact HB.out | apply below_alloc | apply pw_below_drewN | apply below_drew1) | exact HB.out))) : w.heap.size ≤ gb451)); have n4_ := Aside0.mk ((by rw [hg]; exact (below_size (by repeat (first | (with_reducible first | exact HB.out | apply below_alloc | apply pw_below_drewN | apply below_drew1) | exact HB.out))) : w.heap.size ≤ gb451)); clear HO_14; clear HB; have HO_14 := n0_; have HB := n1_; have BK451 := n2_; have GW451 := n3_; have GE451 := n4_; clear n0_ n1_ n2_ n3_ n4_; clear hb hbox hg; have hcz25_0 : w24.cell? ⟨gb451, 0, none⟩ = some (.int .i64 0) := (blk_cell BK451.out 0).trans rfl; have hcz25_1 : w24.cell? ⟨gb451, 1, none⟩ = some (.int .i64 0) := (blk_cell BK451.out 1).trans rfl; have hcz25_2 : w24.cell? ⟨gb451, 2, none⟩ = some (.int .i64 0) := (blk_cell BK451.out 2).trans rfl; have hcz25_3 : w24.cell? ⟨gb451, 3, none⟩ = some (.int .i64 0) := (blk_cell BK451.out 3).trans rfl; have hfz25_0 := blk_frozen BK451.out 0; have hfz25_1 := blk_frozen BK451.out 1; have hfz25_2 := blk_frozen BK451.out 2; have hfz25_3 := blk_frozen BK451.out 3)); go_upto_region 12 with (first | ((with_reducible refine gate_dst (N := 17) rfl ?_); (try (refine gate_guard (by rfl) ?_; dsimp only)); refine box_event ?hg (N := 17) ?hd (cs := #[.int .i64 0, .int .i64 0, .int .i64 0, .int .i64 0]) (t := 29) ?hr ?_; (case hd => rfl); (case hg => rfl); (case hr => first | (go_simp; done) | (go_simp; rfl)); intro gb451 hg w24 hbox hb; have n0_ := Aside0.mk (Kd.R_below (by (with_reducible repeat (first | apply Kd.R_alloc | apply Kd.R_drewN | apply Kd.R_drew)); exact HO_14.out) hb); have n1_ := Aside0.mk (below_step (by repeat (first | (with_reducible first | exact HB.out | apply below_alloc | apply pw_below_drewN | apply below_drew1) | exact HB.out)) hb); have n2_ := Aside0.mk (hbox); have n3_ := Aside0.mk ((by rw [hg]; exact (below_size (by repeat (first | (with_reducible first | exact HB.out | apply below_alloc | apply pw_below_drewN | apply below_drew1) | exact HB.out))) : w.heap.size ≤ gb451)); have n4_ := Aside0.mk ((by rw [hg]; exact (below_size (by repeat (first | (with_reducible first | exact HB.out | apply below_alloc | apply pw_below_drewN | apply below_drew1) | exact HB.out))) : w.heap.size ≤ gb451)); clear HO_14; clear HB; have HO_14 := n0_; have HB := n1_; have BK451 := n2_; have GW451 := n3_; have GE451 := n4_; clear n0_ n1_ n2_ n3_ n4_; clear hb hbox hg; have hcz25_0 : w24.cell? ⟨gb451, 0, none⟩ = some (.int .i64 0) := (blk_cell BK451.out 0).trans rfl; have hcz25_1 : w24.cell? ⟨gb451, 1, none⟩ = some (.int .i64 0) := (blk_cell BK451.out 1).trans rfl; have hcz25_2 : w24.cell? ⟨gb451, 2, none⟩ = some (.int .i64 0) := (blk_cell BK451.out 2).trans rfl; have hcz25_3 : w24.cell? ⟨gb451, 3, none⟩ = some (.int .i64 0) := (blk_cell BK451.out 3).trans rfl; have hfz25_0 := blk_frozen BK451.out 0; have hfz25_1 := blk_frozen BK451.out 1; have hfz25_2 := blk_frozen BK451.out 2; have hfz25_3 := blk_frozen BK451.out 3)))
                  (try simp only [Act.put, List.setIfInBounds_toArray, List.set_cons_zero, List.set_cons_succ])
                  go_cut [103] (fun v103 wc => ∃ (kq : Nat) (x103_21 : Bool), v103 = .bool x103_21 ∧ Aside0 (miradorlaw17_RreCovers.j2 kq a0 a1 l2 a3 a4 a5 true t446 x15_2 x16_2 x103_21 ((rd_T31 t446 x16_2).f1.f0) ((rd_T31 t446 x16_2).f1.f1) ((rd_T31 t446 x16_2).f1.f2) ((rd_T31 t446 x16_2).f1.f3) = some r) ∧ Aside0 (kq ≤ k2) ∧ Aside0 (Kd.R k31 31 wc w.heap.size (fun _ => True) (.slice (some ad450) t446.length co23) t446) ∧ Aside0 (wc.heap[gb451]? = some (.cells #[.int .i64 ((rd_T31 t446 x16_2).f1.f0), .int .i64 ((rd_T31 t446 x16_2).f1.f1), .int .i64 ((rd_T31 t446 x16_2).f1.f2), .int .i64 ((rd_T31 t446 x16_2).f1.f3)] 29 (0, 0))) ∧ Aside0 (Below w.heap.size w wc))
                  case first =>
                    have H := HC22.out
                    clear HC22
                    by_cases c26 : ((rd_T31 t446 x16_2).f1.f2) < 1
                    · rw [if_pos c26] at H
                      have c26b0 : decide (((rd_T31 t446 x16_2).f1.f2) < 1) = true := decide_eq_true c26
                      clear c26
                      (first | rw [c26b0] | (simp only [i64_w, i32_w]; rw [c26b0]) | skip)
                      have H' := Aside0.mk H
                      clear H
                      have hcz27_0 : w24.cell? ⟨gb451, 0, none⟩ = some (.int .i64 0) := (blk_cell BK451.out 0).trans rfl
                      have hcz27_1 : w24.cell? ⟨gb451, 1, none⟩ = some (.int .i64 0) := (blk_cell BK451.out 1).trans rfl
                      have hcz27_2 : w24.cell? ⟨gb451, 2, none⟩ = some (.int .i64 0) := (blk_cell BK451.out 2).trans rfl
                      have hcz27_3 : w24.cell? ⟨gb451, 3, none⟩ = some (.int .i64 0) := (blk_cell BK451.out 3).trans rfl
                      have hfz27_0 := blk_frozen BK451.out 0
                      have hfz27_1 := blk_frozen BK451.out 1
                      have hfz27_2 := blk_frozen BK451.out 2
                      have hfz27_3 := blk_frozen BK451.out 3
                      go_wp2
                      repeat (go_quiet (fail); try go_wp2)
                      go_meet
                      case rel => exact ⟨_, (true), (by first | rfl | (simp; done) | (simp [*]; done)), H', ⟨by have := HJ8.out; have := HK2.out; first | omega | exact Nat.le_refl _⟩, ⟨by (with_reducible repeat (first | apply Kd.R_alloc | apply Kd.R_drewN | apply Kd.R_drew)); exact Kd.R_mono (Kd.R_far (p := ⟨gb451, 3, none⟩) (Kd.R_far (p := ⟨gb451, 2, none⟩) (Kd.R_far (p := ⟨gb451, 1, none⟩) (Kd.R_far (p := ⟨gb451, 0, none⟩) (Kd.R_types HO_14.out BK451.out (by decide)) (fun _ hk => hk.2) (.int .i64 ((rd_T31 t446 x16_2).f1.f0))) (fun _ hk => hk.2) (.int .i64 ((rd_T31 t446 x16_2).f1.f1))) (fun _ hk => hk.2) (.int .i64 ((rd_T31 t446 x16_2).f1.f2))) (fun _ hk => hk.2) (.int .i64 ((rd_T31 t446 x16_2).f1.f3))) (fun _ hk => trivial)⟩, ⟨by (with_reducible repeat (first | refine blk_drewN ?_ _ | refine blk_drew ?_ | refine blk_alloc ?_ _)); refine blk_put (cs := #[.int .i64 ((rd_T31 t446 x16_2).f1.f0), .int .i64 ((rd_T31 t446 x16_2).f1.f1), .int .i64 ((rd_T31 t446 x16_2).f1.f2), .int .i64 0]) ?_ 3 _ rfl; (with_reducible repeat (first | refine blk_drewN ?_ _ | refine blk_drew ?_ | refine blk_alloc ?_ _)); refine blk_put (cs := #[.int .i64 ((rd_T31 t446 x16_2).f1.f0), .int .i64 ((rd_T31 t446 x16_2).f1.f1), .int .i64 0, .int .i64 0]) ?_ 2 _ rfl; (with_reducible repeat (first | refine blk_drewN ?_ _ | refine blk_drew ?_ | refine blk_alloc ?_ _)); refine blk_put (cs := #[.int .i64 ((rd_T31 t446 x16_2).f1.f0), .int .i64 0, .int .i64 0, .int .i64 0]) ?_ 1 _ rfl; (with_reducible repeat (first | refine blk_drewN ?_ _ | refine blk_drew ?_ | refine blk_alloc ?_ _)); refine blk_put (cs := #[.int .i64 0, .int .i64 0, .int .i64 0, .int .i64 0]) ?_ 0 _ rfl; (with_reducible repeat (first | refine blk_drewN ?_ _ | refine blk_drew ?_ | refine blk_alloc ?_ _)); exact BK451.out⟩, ⟨by repeat (first | (with_reducible first | exact HB.out | apply below_alloc | apply pw_below_drewN | apply below_drew1 | refine below_set ?_ GE451.out) | exact HB.out)⟩⟩
                    · rw [if_neg c26] at H
                      have c26b0 : decide (((rd_T31 t446 x16_2).f1.f2) < 1) = false := decide_eq_false c26
                      clear c26
                      (first | rw [c26b0] | (simp only [i64_w, i32_w]; rw [c26b0]) | skip)
                      by_cases c28 : ((rd_T31 t446 x16_2).f1.f3) < 1
                      · rw [if_pos c28] at H
                        have c28b0 : decide (((rd_T31 t446 x16_2).f1.f3) < 1) = true := decide_eq_true c28
                        clear c28
                        have H' := Aside0.mk H
                        clear H
                        have hcz29_0 : w24.cell? ⟨gb451, 0, none⟩ = some (.int .i64 0) := (blk_cell BK451.out 0).trans rfl
                        have hcz29_1 : w24.cell? ⟨gb451, 1, none⟩ = some (.int .i64 0) := (blk_cell BK451.out 1).trans rfl
                        have hcz29_2 : w24.cell? ⟨gb451, 2, none⟩ = some (.int .i64 0) := (blk_cell BK451.out 2).trans rfl
                        have hcz29_3 : w24.cell? ⟨gb451, 3, none⟩ = some (.int .i64 0) := (blk_cell BK451.out 3).trans rfl
                        have hfz29_0 := blk_frozen BK451.out 0
                        have hfz29_1 := blk_frozen BK451.out 1
                        have hfz29_2 := blk_frozen BK451.out 2
                        have hfz29_3 := blk_frozen BK451.out 3
                        go_wp2
                        repeat (go_quiet (fail); try go_wp2)
                        go_meet
                        case rel => exact ⟨_, (true), (by first | rfl | (simp; done) | (simp [*]; done)), H', ⟨by have := HJ8.out; have := HK2.out; first | omega | exact Nat.le_refl _⟩, ⟨by (with_reducible repeat (first | apply Kd.R_alloc | apply Kd.R_drewN | apply Kd.R_drew)); exact Kd.R_mono (Kd.R_far (p := ⟨gb451, 3, none⟩) (Kd.R_far (p := ⟨gb451, 2, none⟩) (Kd.R_far (p := ⟨gb451, 1, none⟩) (Kd.R_far (p := ⟨gb451, 0, none⟩) (Kd.R_types HO_14.out BK451.out (by decide)) (fun _ hk => hk.2) (.int .i64 ((rd_T31 t446 x16_2).f1.f0))) (fun _ hk => hk.2) (.int .i64 ((rd_T31 t446 x16_2).f1.f1))) (fun _ hk => hk.2) (.int .i64 ((rd_T31 t446 x16_2).f1.f2))) (fun _ hk => hk.2) (.int .i64 ((rd_T31 t446 x16_2).f1.f3))) (fun _ hk => trivial)⟩, ⟨by (with_reducible repeat (first | refine blk_drewN ?_ _ | refine blk_drew ?_ | refine blk_alloc ?_ _)); refine blk_put (cs := #[.int .i64 ((rd_T31 t446 x16_2).f1.f0), .int .i64 ((rd_T31 t446 x16_2).f1.f1), .int .i64 ((rd_T31 t446 x16_2).f1.f2), .int .i64 0]) ?_ 3 _ rfl; (with_reducible repeat (first | refine blk_drewN ?_ _ | refine blk_drew ?_ | refine blk_alloc ?_ _)); refine blk_put (cs := #[.int .i64 ((rd_T31 t446 x16_2).f1.f0), .int .i64 ((rd_T31 t446 x16_2).f1.f1), .int .i64 0, .int .i64 0]) ?_ 2 _ rfl; (with_reducible repeat (first | refine blk_drewN ?_ _ | refine blk_drew ?_ | refine blk_alloc ?_ _)); refine blk_put (cs := #[.int .i64 ((rd_T31 t446 x16_2).f1.f0), .int .i64 0, .int .i64 0, .int .i64 0]) ?_ 1 _ rfl; (with_reducible repeat (first | refine blk_drewN ?_ _ | refine blk_drew ?_ | refine blk_alloc ?_ _)); refine blk_put (cs := #[.int .i64 0, .int .i64 0, .int .i64 0, .int .i64 0]) ?_ 0 _ rfl; (with_reducible repeat (first | refine blk_drewN ?_ _ | refine blk_drew ?_ | refine blk_alloc ?_ _)); exact BK451.out⟩, ⟨by repeat (first | (with_reducible first | exact HB.out | apply below_alloc | apply pw_below_drewN | apply below_drew1 | refine below_set ?_ GE451.out) | exact HB.out)⟩⟩
                      · rw [if_neg c28] at H
                        have c28b0 : decide (((rd_T31 t446 x16_2).f1.f3) < 1) = false := decide_eq_false c28
                        clear c28
                        by_cases c30 : ((rd_T31 t446 x16_2).f1.f0) < 0
                        · rw [if_pos c30] at H
                          have c30b0 : decide (((rd_T31 t446 x16_2).f1.f0) < 0) = true := decide_eq_true c30
                          clear c30
                          have H' := Aside0.mk H
                          clear H
                          have hcz31_0 : w24.cell? ⟨gb451, 0, none⟩ = some (.int .i64 0) := (blk_cell BK451.out 0).trans rfl
                          have hcz31_1 : w24.cell? ⟨gb451, 1, none⟩ = some (.int .i64 0) := (blk_cell BK451.out 1).trans rfl
                          have hcz31_2 : w24.cell? ⟨gb451, 2, none⟩ = some (.int .i64 0) := (blk_cell BK451.out 2).trans rfl
                          have hcz31_3 : w24.cell? ⟨gb451, 3, none⟩ = some (.int .i64 0) := (blk_cell BK451.out 3).trans rfl
                          have hfz31_0 := blk_frozen BK451.out 0
                          have hfz31_1 := blk_frozen BK451.out 1
                          have hfz31_2 := blk_frozen BK451.out 2
                          have hfz31_3 := blk_frozen BK451.out 3
                          go_wp2
                          repeat (go_quiet (fail); try go_wp2)
                          go_meet
                          case rel => exact ⟨_, (true), (by first | rfl | (simp; done) | (simp [*]; done)), H', ⟨by have := HJ8.out; have := HK2.out; first | omega | exact Nat.le_refl _⟩, ⟨by (with_reducible repeat (first | apply Kd.R_alloc | apply Kd.R_drewN | apply Kd.R_drew)); exact Kd.R_mono (Kd.R_far (p := ⟨gb451, 3, none⟩) (Kd.R_far (p := ⟨gb451, 2, none⟩) (Kd.R_far (p := ⟨gb451, 1, none⟩) (Kd.R_far (p := ⟨gb451, 0, none⟩) (Kd.R_types HO_14.out BK451.out (by decide)) (fun _ hk => hk.2) (.int .i64 ((rd_T31 t446 x16_2).f1.f0))) (fun _ hk => hk.2) (.int .i64 ((rd_T31 t446 x16_2).f1.f1))) (fun _ hk => hk.2) (.int .i64 ((rd_T31 t446 x16_2).f1.f2))) (fun _ hk => hk.2) (.int .i64 ((rd_T31 t446 x16_2).f1.f3))) (fun _ hk => trivial)⟩, ⟨by (with_reducible repeat (first | refine blk_drewN ?_ _ | refine blk_drew ?_ | refine blk_alloc ?_ _)); refine blk_put (cs := #[.int .i64 ((rd_T31 t446 x16_2).f1.f0), .int .i64 ((rd_T31 t446 x16_2).f1.f1), .int .i64 ((rd_T31 t446 x16_2).f1.f2), .int .i64 0]) ?_ 3 _ rfl; (with_reducible repeat (first | refine blk_drewN ?_ _ | refine blk_drew ?_ | refine blk_alloc ?_ _)); refine blk_put (cs := #[.int .i64 ((rd_T31 t446 x16_2).f1.f0), .int .i64 ((rd_T31 t446 x16_2).f1.f1), .int .i64 0, .int .i64 0]) ?_ 2 _ rfl; (with_reducible repeat (first | refine blk_drewN ?_ _ | refine blk_drew ?_ | refine blk_alloc ?_ _)); refine blk_put (cs := #[.int .i64 ((rd_T31 t446 x16_2).f1.f0), .int .i64 0, .int .i64 0, .int .i64 0]) ?_ 1 _ rfl; (with_reducible repeat (first | refine blk_drewN ?_ _ | refine blk_drew ?_ | refine blk_alloc ?_ _)); refine blk_put (cs := #[.int .i64 0, .int .i64 0, .int .i64 0, .int .i64 0]) ?_ 0 _ rfl; (with_reducible repeat (first | refine blk_drewN ?_ _ | refine blk_drew ?_ | refine blk_alloc ?_ _)); exact BK451.out⟩, ⟨by repeat (first | (with_reducible first | exact HB.out | apply below_alloc | apply pw_below_drewN | apply below_drew1 | refine below_set ?_ GE451.out) | exact HB.out)⟩⟩
                        · rw [if_neg c30] at H
                          have c30b0 : decide (((rd_T31 t446 x16_2).f1.f0) < 0) = false := decide_eq_false c30
                          clear c30
                          by_cases c32 : ((rd_T31 t446 x16_2).f1.f1) < 0
                          · rw [if_pos c32] at H
                            have c32b0 : decide (((rd_T31 t446 x16_2).f1.f1) < 0) = true := decide_eq_true c32
                            clear c32
                            have H' := Aside0.mk H
                            clear H
                            have hcz33_0 : w24.cell? ⟨gb451, 0, none⟩ = some (.int .i64 0) := (blk_cell BK451.out 0).trans rfl
                            have hcz33_1 : w24.cell? ⟨gb451, 1, none⟩ = some (.int .i64 0) := (blk_cell BK451.out 1).trans rfl
                            have hcz33_2 : w24.cell? ⟨gb451, 2, none⟩ = some (.int .i64 0) := (blk_cell BK451.out 2).trans rfl
                            have hcz33_3 : w24.cell? ⟨gb451, 3, none⟩ = some (.int .i64 0) := (blk_cell BK451.out 3).trans rfl
                            have hfz33_0 := blk_frozen BK451.out 0
                            have hfz33_1 := blk_frozen BK451.out 1
                            have hfz33_2 := blk_frozen BK451.out 2
                            have hfz33_3 := blk_frozen BK451.out 3
                            go_wp2
                            repeat (go_quiet (fail); try go_wp2)
                            go_meet
                            case rel => exact ⟨_, (true), (by first | rfl | (simp; done) | (simp [*]; done)), H', ⟨by have := HJ8.out; have := HK2.out; first | omega | exact Nat.le_refl _⟩, ⟨by (with_reducible repeat (first | apply Kd.R_alloc | apply Kd.R_drewN | apply Kd.R_drew)); exact Kd.R_mono (Kd.R_far (p := ⟨gb451, 3, none⟩) (Kd.R_far (p := ⟨gb451, 2, none⟩) (Kd.R_far (p := ⟨gb451, 1, none⟩) (Kd.R_far (p := ⟨gb451, 0, none⟩) (Kd.R_types HO_14.out BK451.out (by decide)) (fun _ hk => hk.2) (.int .i64 ((rd_T31 t446 x16_2).f1.f0))) (fun _ hk => hk.2) (.int .i64 ((rd_T31 t446 x16_2).f1.f1))) (fun _ hk => hk.2) (.int .i64 ((rd_T31 t446 x16_2).f1.f2))) (fun _ hk => hk.2) (.int .i64 ((rd_T31 t446 x16_2).f1.f3))) (fun _ hk => trivial)⟩, ⟨by (with_reducible repeat (first | refine blk_drewN ?_ _ | refine blk_drew ?_ | refine blk_alloc ?_ _)); refine blk_put (cs := #[.int .i64 ((rd_T31 t446 x16_2).f1.f0), .int .i64 ((rd_T31 t446 x16_2).f1.f1), .int .i64 ((rd_T31 t446 x16_2).f1.f2), .int .i64 0]) ?_ 3 _ rfl; (with_reducible repeat (first | refine blk_drewN ?_ _ | refine blk_drew ?_ | refine blk_alloc ?_ _)); refine blk_put (cs := #[.int .i64 ((rd_T31 t446 x16_2).f1.f0), .int .i64 ((rd_T31 t446 x16_2).f1.f1), .int .i64 0, .int .i64 0]) ?_ 2 _ rfl; (with_reducible repeat (first | refine blk_drewN ?_ _ | refine blk_drew ?_ | refine blk_alloc ?_ _)); refine blk_put (cs := #[.int .i64 ((rd_T31 t446 x16_2).f1.f0), .int .i64 0, .int .i64 0, .int .i64 0]) ?_ 1 _ rfl; (with_reducible repeat (first | refine blk_drewN ?_ _ | refine blk_drew ?_ | refine blk_alloc ?_ _)); refine blk_put (cs := #[.int .i64 0, .int .i64 0, .int .i64 0, .int .i64 0]) ?_ 0 _ rfl; (with_reducible repeat (first | refine blk_drewN ?_ _ | refine blk_drew ?_ | refine blk_alloc ?_ _)); exact BK451.out⟩, ⟨by repeat (first | (with_reducible first | exact HB.out | apply below_alloc | apply pw_below_drewN | apply below_drew1 | refine below_set ?_ GE451.out) | exact HB.out)⟩⟩
                          · rw [if_neg c32] at H
                            have c32b0 : decide (((rd_T31 t446 x16_2).f1.f1) < 0) = false := decide_eq_false c32
                            clear c32
                            by_cases c34 : (wrap64 (((rd_T31 t446 x16_2).f1.f0) + ((rd_T31 t446 x16_2).f1.f2))) > a0
                            · rw [if_pos c34] at H
                              have c34b0 : decide (a0 < (wrap64 (((rd_T31 t446 x16_2).f1.f0) + ((rd_T31 t446 x16_2).f1.f2)))) = true := decide_eq_true c34
                              clear c34
                              have H' := Aside0.mk H
                              clear H
                              have hcz35_0 : w24.cell? ⟨gb451, 0, none⟩ = some (.int .i64 0) := (blk_cell BK451.out 0).trans rfl
                              have hcz35_1 : w24.cell? ⟨gb451, 1, none⟩ = some (.int .i64 0) := (blk_cell BK451.out 1).trans rfl
                              have hcz35_2 : w24.cell? ⟨gb451, 2, none⟩ = some (.int .i64 0) := (blk_cell BK451.out 2).trans rfl
                              have hcz35_3 : w24.cell? ⟨gb451, 3, none⟩ = some (.int .i64 0) := (blk_cell BK451.out 3).trans rfl
                              have hfz35_0 := blk_frozen BK451.out 0
                              have hfz35_1 := blk_frozen BK451.out 1
                              have hfz35_2 := blk_frozen BK451.out 2
                              have hfz35_3 := blk_frozen BK451.out 3
                              go_wp2
                              repeat (go_quiet (fail); try go_wp2)
                              go_meet
                              case rel => exact ⟨_, (true), (by first | rfl | (simp; done) | (simp [*]; done)), H', ⟨by have := HJ8.out; have := HK2.out; first | omega | exact Nat.le_refl _⟩, ⟨by (with_reducible repeat (first | apply Kd.R_alloc | apply Kd.R_drewN | apply Kd.R_drew)); exact Kd.R_mono (Kd.R_far (p := ⟨gb451, 3, none⟩) (Kd.R_far (p := ⟨gb451, 2, none⟩) (Kd.R_far (p := ⟨gb451, 1, none⟩) (Kd.R_far (p := ⟨gb451, 0, none⟩) (Kd.R_types HO_14.out BK451.out (by decide)) (fun _ hk => hk.2) (.int .i64 ((rd_T31 t446 x16_2).f1.f0))) (fun _ hk => hk.2) (.int .i64 ((rd_T31 t446 x16_2).f1.f1))) (fun _ hk => hk.2) (.int .i64 ((rd_T31 t446 x16_2).f1.f2))) (fun _ hk => hk.2) (.int .i64 ((rd_T31 t446 x16_2).f1.f3))) (fun _ hk => trivial)⟩, ⟨by (with_reducible repeat (first | refine blk_drewN ?_ _ | refine blk_drew ?_ | refine blk_alloc ?_ _)); refine blk_put (cs := #[.int .i64 ((rd_T31 t446 x16_2).f1.f0), .int .i64 ((rd_T31 t446 x16_2).f1.f1), .int .i64 ((rd_T31 t446 x16_2).f1.f2), .int .i64 0]) ?_ 3 _ rfl; (with_reducible repeat (first | refine blk_drewN ?_ _ | refine blk_drew ?_ | refine blk_alloc ?_ _)); refine blk_put (cs := #[.int .i64 ((rd_T31 t446 x16_2).f1.f0), .int .i64 ((rd_T31 t446 x16_2).f1.f1), .int .i64 0, .int .i64 0]) ?_ 2 _ rfl; (with_reducible repeat (first | refine blk_drewN ?_ _ | refine blk_drew ?_ | refine blk_alloc ?_ _)); refine blk_put (cs := #[.int .i64 ((rd_T31 t446 x16_2).f1.f0), .int .i64 0, .int .i64 0, .int .i64 0]) ?_ 1 _ rfl; (with_reducible repeat (first | refine blk_drewN ?_ _ | refine blk_drew ?_ | refine blk_alloc ?_ _)); refine blk_put (cs := #[.int .i64 0, .int .i64 0, .int .i64 0, .int .i64 0]) ?_ 0 _ rfl; (with_reducible repeat (first | refine blk_drewN ?_ _ | refine blk_drew ?_ | refine blk_alloc ?_ _)); exact BK451.out⟩, ⟨by repeat (first | (with_reducible first | exact HB.out | apply below_alloc | apply pw_below_drewN | apply below_drew1 | refine below_set ?_ GE451.out) | exact HB.out)⟩⟩
                            · rw [if_neg c34] at H
                              have c34b0 : decide (a0 < (wrap64 (((rd_T31 t446 x16_2).f1.f0) + ((rd_T31 t446 x16_2).f1.f2)))) = false := decide_eq_false c34
                              clear c34
                              have H' := Aside0.mk H
                              clear H
                              have hcz36_0 : w24.cell? ⟨gb451, 0, none⟩ = some (.int .i64 0) := (blk_cell BK451.out 0).trans rfl
                              have hcz36_1 : w24.cell? ⟨gb451, 1, none⟩ = some (.int .i64 0) := (blk_cell BK451.out 1).trans rfl
                              have hcz36_2 : w24.cell? ⟨gb451, 2, none⟩ = some (.int .i64 0) := (blk_cell BK451.out 2).trans rfl
                              have hcz36_3 : w24.cell? ⟨gb451, 3, none⟩ = some (.int .i64 0) := (blk_cell BK451.out 3).trans rfl
                              have hfz36_0 := blk_frozen BK451.out 0
                              have hfz36_1 := blk_frozen BK451.out 1
                              have hfz36_2 := blk_frozen BK451.out 2
                              have hfz36_3 := blk_frozen BK451.out 3
                              go_wp2
                              repeat (go_quiet (fail); try go_wp2)
                              go_meet
                              case rel => exact ⟨_, (decide ((wrap64 (((rd_T31 t446 x16_2).f1.f1) + ((rd_T31 t446 x16_2).f1.f3))) > a1)), (by first | rfl | (simp; done) | (simp [*]; done)), H', ⟨by have := HJ8.out; have := HK2.out; first | omega | exact Nat.le_refl _⟩, ⟨by (with_reducible repeat (first | apply Kd.R_alloc | apply Kd.R_drewN | apply Kd.R_drew)); exact Kd.R_mono (Kd.R_far (p := ⟨gb451, 3, none⟩) (Kd.R_far (p := ⟨gb451, 2, none⟩) (Kd.R_far (p := ⟨gb451, 1, none⟩) (Kd.R_far (p := ⟨gb451, 0, none⟩) (Kd.R_types HO_14.out BK451.out (by decide)) (fun _ hk => hk.2) (.int .i64 ((rd_T31 t446 x16_2).f1.f0))) (fun _ hk => hk.2) (.int .i64 ((rd_T31 t446 x16_2).f1.f1))) (fun _ hk => hk.2) (.int .i64 ((rd_T31 t446 x16_2).f1.f2))) (fun _ hk => hk.2) (.int .i64 ((rd_T31 t446 x16_2).f1.f3))) (fun _ hk => trivial)⟩, ⟨by (with_reducible repeat (first | refine blk_drewN ?_ _ | refine blk_drew ?_ | refine blk_alloc ?_ _)); refine blk_put (cs := #[.int .i64 ((rd_T31 t446 x16_2).f1.f0), .int .i64 ((rd_T31 t446 x16_2).f1.f1), .int .i64 ((rd_T31 t446 x16_2).f1.f2), .int .i64 0]) ?_ 3 _ rfl; (with_reducible repeat (first | refine blk_drewN ?_ _ | refine blk_drew ?_ | refine blk_alloc ?_ _)); refine blk_put (cs := #[.int .i64 ((rd_T31 t446 x16_2).f1.f0), .int .i64 ((rd_T31 t446 x16_2).f1.f1), .int .i64 0, .int .i64 0]) ?_ 2 _ rfl; (with_reducible repeat (first | refine blk_drewN ?_ _ | refine blk_drew ?_ | refine blk_alloc ?_ _)); refine blk_put (cs := #[.int .i64 ((rd_T31 t446 x16_2).f1.f0), .int .i64 0, .int .i64 0, .int .i64 0]) ?_ 1 _ rfl; (with_reducible repeat (first | refine blk_drewN ?_ _ | refine blk_drew ?_ | refine blk_alloc ?_ _)); refine blk_put (cs := #[.int .i64 0, .int .i64 0, .int .i64 0, .int .i64 0]) ?_ 0 _ rfl; (with_reducible repeat (first | refine blk_drewN ?_ _ | refine blk_drew ?_ | refine blk_alloc ?_ _)); exact BK451.out⟩, ⟨by repeat (first | (with_reducible first | exact HB.out | apply below_alloc | apply pw_below_drewN | apply below_drew1 | refine below_set ?_ GE451.out) | exact HB.out)⟩⟩
                  case rest =>
                    clear HC22
                    try clear c1
                    try clear c2
                    try clear p2
                    try clear c3
                    try clear p4
                    try clear q4
                    try clear hx4
                    try clear p6
                    try clear c7
                    try clear c8
                    try clear c12
                    try clear c13
                    try clear c13b0
                    try clear c13b1
                    try clear c14
                    try clear c14b0
                    try clear c15
                    try clear c15b0
                    try clear c16
                    try clear c16b0
                    try clear c17
                    try clear c20
                    try clear c20b0
                    try clear c21
                    try clear c21b0
                    try clear c26
                    try clear c26b0
                    try clear c28
                    try clear c28b0
                    try clear c30
                    try clear c30b0
                    try clear c32
                    try clear c32b0
                    try clear c34
                    try clear c34b0
                    try clear hcz25_0
                    try clear hcz25_1
                    try clear hcz25_2
                    try clear hcz25_3
                    try clear hcz27_0
                    try clear hcz27_1
                    try clear hcz27_2
                    try clear hcz27_3
                    try clear hcz29_0
                    try clear hcz29_1
                    try clear hcz29_2
                    try clear hcz29_3
                    try clear hcz31_0
                    try clear hcz31_1
                    try clear hcz31_2
                    try clear hcz31_3
                    try clear hcz33_0
                    try clear hcz33_1
                    try clear hcz33_2
                    try clear hcz33_3
                    try clear hcz35_0
                    try clear hcz35_1
                    try clear hcz35_2
                    try clear hcz35_3
                    try clear hcz36_0
                    try clear hcz36_1
                    try clear hcz36_2
                    try clear hcz36_3
                    try clear hfz25_0
                    try clear hfz25_1
                    try clear hfz25_2
                    try clear hfz25_3
                    try clear hfz27_0
                    try clear hfz27_1
                    try clear hfz27_2
                    try clear hfz27_3
                    try clear hfz29_0
                    try clear hfz29_1
                    try clear hfz29_2
                    try clear hfz29_3
                    try clear hfz31_0
                    try clear hfz31_1
                    try clear hfz31_2
                    try clear hfz31_3
                    try clear hfz33_0
                    try clear hfz33_1
                    try clear hfz33_2
                    try clear hfz33_3
                    try clear hfz35_0
                    try clear hfz35_1
                    try clear hfz35_2
                    try clear hfz35_3
                    try clear hfz36_0
                    try clear hfz36_1
                    try clear hfz36_2
                    try clear hfz36_3
                    try clear hx450_0
                    try clear hx450_1
                    try clear hx450_2
                    try clear hx450_3
                    try clear hx450_4
                    try clear p2
                    try clear p450
                    try clear p6
                    try clear q450
                    obtain ⟨kq, x103_21, rfl, HA, HJ21, HO_14, BK451, HB⟩ := hcut
                    cases kq with
                    | zero => exact absurd HA.out (by simp [miradorlaw17_RreCovers.j2])
                    | succ kj21 =>
                      have H := HA.out
                      clear HA
                      simp only [miradorlaw17_RreCovers.j2] at H
                      by_cases c37 : x103_21 = true
                      · subst c37
                        have H1 : (some false) = some r := by rw [if_pos rfl] at H; exact H
                        clear H
                        have H := H1
                        clear H1
                        rw [HRT.out] at H
                        exact absurd (Option.some.inj H) (by decide)
                      · replace c37 := Bool.eq_false_iff.mpr c37
                        subst c37
                        have H1 : (if a4 ≥ ((rd_T31 t446 x16_2).f1.f0) then (if a4 < (wrap64 (((rd_T31 t446 x16_2).f1.f0) + ((rd_T31 t446 x16_2).f1.f2))) then (if a5 ≥ ((rd_T31 t446 x16_2).f1.f1) then (miradorlaw17_RreCovers.j3 kj21 a0 a1 l2 a3 a4 a5 true t446 x15_2 x16_2 (decide (a5 < (wrap64 (((rd_T31 t446 x16_2).f1.f1) + ((rd_T31 t446 x16_2).f1.f3)))))) else (miradorlaw17_RreCovers.j3 kj21 a0 a1 l2 a3 a4 a5 true t446 x15_2 x16_2 false)) else (miradorlaw17_RreCovers.j3 kj21 a0 a1 l2 a3 a4 a5 true t446 x15_2 x16_2 false)) else (miradorlaw17_RreCovers.j3 kj21 a0 a1 l2 a3 a4 a5 true t446 x15_2 x16_2 false)) = some r := by rw [if_neg (show ¬ (false = true) by decide)] at H; exact H
                        clear H
                        have H := H1
                        clear H1
                        have HC38 := Aside0.mk H
                        clear H
                        go_upto_region 14 with (fail)
                        repeat (go_quiet (fail); go_upto_region 14 with (fail))
                        go_cut [131] (fun v131 wc => ∃ (kq : Nat) (x131_37 : Bool), v131 = .bool x131_37 ∧ Aside0 (miradorlaw17_RreCovers.j3 kq a0 a1 l2 a3 a4 a5 true t446 x15_2 x16_2 x131_37 = some r) ∧ Aside0 (kq ≤ kj21) ∧ Aside0 (Kd.R k31 31 wc w.heap.size (fun _ => True) (.slice (some ad450) t446.length co23) t446) ∧ Aside0 (wc.heap[gb451]? = some (.cells #[.int .i64 ((rd_T31 t446 x16_2).f1.f0), .int .i64 ((rd_T31 t446 x16_2).f1.f1), .int .i64 ((rd_T31 t446 x16_2).f1.f2), .int .i64 ((rd_T31 t446 x16_2).f1.f3)] 29 (0, 0))) ∧ Aside0 (Below w.heap.size w wc))
                        case first =>
                          have H := HC38.out
                          clear HC38
                          by_cases c39 : a4 ≥ ((rd_T31 t446 x16_2).f1.f0)
                          · rw [if_pos c39] at H
                            have c39b0 : decide (((rd_T31 t446 x16_2).f1.f0) ≤ a4) = true := decide_eq_true c39
                            clear c39
                            (first | rw [c39b0] | (simp only [i64_w, i32_w]; rw [c39b0]) | skip)
                            by_cases c40 : a4 < (wrap64 (((rd_T31 t446 x16_2).f1.f0) + ((rd_T31 t446 x16_2).f1.f2)))
                            · rw [if_pos c40] at H
                              have c40b0 : decide (a4 < (wrap64 (((rd_T31 t446 x16_2).f1.f0) + ((rd_T31 t446 x16_2).f1.f2)))) = true := decide_eq_true c40
                              clear c40
                              by_cases c41 : a5 ≥ ((rd_T31 t446 x16_2).f1.f1)
                              · rw [if_pos c41] at H
                                have c41b0 : decide (((rd_T31 t446 x16_2).f1.f1) ≤ a5) = true := decide_eq_true c41
                                clear c41
                                have H' := Aside0.mk H
                                clear H
                                have hcz42_0 : wc.cell? ⟨gb451, 0, none⟩ = some (.int .i64 ((rd_T31 t446 x16_2).f1.f0)) := (blk_cell BK451.out 0).trans rfl
                                have hcz42_1 : wc.cell? ⟨gb451, 1, none⟩ = some (.int .i64 ((rd_T31 t446 x16_2).f1.f1)) := (blk_cell BK451.out 1).trans rfl
                                have hcz42_2 : wc.cell? ⟨gb451, 2, none⟩ = some (.int .i64 ((rd_T31 t446 x16_2).f1.f2)) := (blk_cell BK451.out 2).trans rfl
                                have hcz42_3 : wc.cell? ⟨gb451, 3, none⟩ = some (.int .i64 ((rd_T31 t446 x16_2).f1.f3)) := (blk_cell BK451.out 3).trans rfl
                                have hfz42_0 := blk_frozen BK451.out 0
                                have hfz42_1 := blk_frozen BK451.out 1
                                have hfz42_2 := blk_frozen BK451.out 2
                                have hfz42_3 := blk_frozen BK451.out 3
                                go_wp2
                                repeat (go_quiet (fail); try go_wp2)
                                go_meet
                                case rel => exact ⟨_, (decide (a5 < (wrap64 (((rd_T31 t446 x16_2).f1.f1) + ((rd_T31 t446 x16_2).f1.f3))))), (by first | rfl | (simp; done) | (simp [*]; done)), H', ⟨by have := HJ8.out; have := HK2.out; have := HJ21.out; first | omega | exact Nat.le_refl _⟩, ⟨by (with_reducible repeat (first | apply Kd.R_alloc | apply Kd.R_drewN | apply Kd.R_drew)); exact HO_14.out⟩, ⟨by (with_reducible repeat (first | refine blk_drewN ?_ _ | refine blk_drew ?_ | refine blk_alloc ?_ _)); exact BK451.out⟩, ⟨by repeat (first | (with_reducible first | exact HB.out | apply below_alloc | apply pw_below_drewN | apply below_drew1 | refine below_set ?_ GE451.out) | exact HB.out)⟩⟩
                              · rw [if_neg c41] at H
                                have c41b0 : decide (((rd_T31 t446 x16_2).f1.f1) ≤ a5) = false := decide_eq_false c41
                                clear c41
                                have H' := Aside0.mk H
                                clear H
                                have hcz43_0 : wc.cell? ⟨gb451, 0, none⟩ = some (.int .i64 ((rd_T31 t446 x16_2).f1.f0)) := (blk_cell BK451.out 0).trans rfl
                                have hcz43_1 : wc.cell? ⟨gb451, 1, none⟩ = some (.int .i64 ((rd_T31 t446 x16_2).f1.f1)) := (blk_cell BK451.out 1).trans rfl
                                have hcz43_2 : wc.cell? ⟨gb451, 2, none⟩ = some (.int .i64 ((rd_T31 t446 x16_2).f1.f2)) := (blk_cell BK451.out 2).trans rfl
                                have hcz43_3 : wc.cell? ⟨gb451, 3, none⟩ = some (.int .i64 ((rd_T31 t446 x16_2).f1.f3)) := (blk_cell BK451.out 3).trans rfl
                                have hfz43_0 := blk_frozen BK451.out 0
                                have hfz43_1 := blk_frozen BK451.out 1
                                have hfz43_2 := blk_frozen BK451.out 2
                                have hfz43_3 := blk_frozen BK451.out 3
                                go_wp2
                                repeat (go_quiet (fail); try go_wp2)
                                go_meet
                                case rel => exact ⟨_, (false), (by first | rfl | (simp; done) | (simp [*]; done)), H', ⟨by have := HJ8.out; have := HK2.out; have := HJ21.out; first | omega | exact Nat.le_refl _⟩, ⟨by (with_reducible repeat (first | apply Kd.R_alloc | apply Kd.R_drewN | apply Kd.R_drew)); exact HO_14.out⟩, ⟨by (with_reducible repeat (first | refine blk_drewN ?_ _ | refine blk_drew ?_ | refine blk_alloc ?_ _)); exact BK451.out⟩, ⟨by repeat (first | (with_reducible first | exact HB.out | apply below_alloc | apply pw_below_drewN | apply below_drew1 | refine below_set ?_ GE451.out) | exact HB.out)⟩⟩
                            · rw [if_neg c40] at H
                              have c40b0 : decide (a4 < (wrap64 (((rd_T31 t446 x16_2).f1.f0) + ((rd_T31 t446 x16_2).f1.f2)))) = false := decide_eq_false c40
                              clear c40
                              have H' := Aside0.mk H
                              clear H
                              have hcz44_0 : wc.cell? ⟨gb451, 0, none⟩ = some (.int .i64 ((rd_T31 t446 x16_2).f1.f0)) := (blk_cell BK451.out 0).trans rfl
                              have hcz44_1 : wc.cell? ⟨gb451, 1, none⟩ = some (.int .i64 ((rd_T31 t446 x16_2).f1.f1)) := (blk_cell BK451.out 1).trans rfl
                              have hcz44_2 : wc.cell? ⟨gb451, 2, none⟩ = some (.int .i64 ((rd_T31 t446 x16_2).f1.f2)) := (blk_cell BK451.out 2).trans rfl
                              have hcz44_3 : wc.cell? ⟨gb451, 3, none⟩ = some (.int .i64 ((rd_T31 t446 x16_2).f1.f3)) := (blk_cell BK451.out 3).trans rfl
                              have hfz44_0 := blk_frozen BK451.out 0
                              have hfz44_1 := blk_frozen BK451.out 1
                              have hfz44_2 := blk_frozen BK451.out 2
                              have hfz44_3 := blk_frozen BK451.out 3
                              go_wp2
                              repeat (go_quiet (fail); try go_wp2)
                              go_meet
                              case rel => exact ⟨_, (false), (by first | rfl | (simp; done) | (simp [*]; done)), H', ⟨by have := HJ8.out; have := HK2.out; have := HJ21.out; first | omega | exact Nat.le_refl _⟩, ⟨by (with_reducible repeat (first | apply Kd.R_alloc | apply Kd.R_drewN | apply Kd.R_drew)); exact HO_14.out⟩, ⟨by (with_reducible repeat (first | refine blk_drewN ?_ _ | refine blk_drew ?_ | refine blk_alloc ?_ _)); exact BK451.out⟩, ⟨by repeat (first | (with_reducible first | exact HB.out | apply below_alloc | apply pw_below_drewN | apply below_drew1 | refine below_set ?_ GE451.out) | exact HB.out)⟩⟩
                          · rw [if_neg c39] at H
                            have c39b0 : decide (((rd_T31 t446 x16_2).f1.f0) ≤ a4) = false := decide_eq_false c39
                            clear c39
                            (first | rw [c39b0] | (simp only [i64_w, i32_w]; rw [c39b0]) | skip)
                            have H' := Aside0.mk H
                            clear H
                            have hcz45_0 : wc.cell? ⟨gb451, 0, none⟩ = some (.int .i64 ((rd_T31 t446 x16_2).f1.f0)) := (blk_cell BK451.out 0).trans rfl
                            have hcz45_1 : wc.cell? ⟨gb451, 1, none⟩ = some (.int .i64 ((rd_T31 t446 x16_2).f1.f1)) := (blk_cell BK451.out 1).trans rfl
                            have hcz45_2 : wc.cell? ⟨gb451, 2, none⟩ = some (.int .i64 ((rd_T31 t446 x16_2).f1.f2)) := (blk_cell BK451.out 2).trans rfl
                            have hcz45_3 : wc.cell? ⟨gb451, 3, none⟩ = some (.int .i64 ((rd_T31 t446 x16_2).f1.f3)) := (blk_cell BK451.out 3).trans rfl
                            have hfz45_0 := blk_frozen BK451.out 0
                            have hfz45_1 := blk_frozen BK451.out 1
                            have hfz45_2 := blk_frozen BK451.out 2
                            have hfz45_3 := blk_frozen BK451.out 3
                            go_wp2
                            repeat (go_quiet (fail); try go_wp2)
                            go_meet
                            case rel => exact ⟨_, (false), (by first | rfl | (simp; done) | (simp [*]; done)), H', ⟨by have := HJ8.out; have := HK2.out; have := HJ21.out; first | omega | exact Nat.le_refl _⟩, ⟨by (with_reducible repeat (first | apply Kd.R_alloc | apply Kd.R_drewN | apply Kd.R_drew)); exact HO_14.out⟩, ⟨by (with_reducible repeat (first | refine blk_drewN ?_ _ | refine blk_drew ?_ | refine blk_alloc ?_ _)); exact BK451.out⟩, ⟨by repeat (first | (with_reducible first | exact HB.out | apply below_alloc | apply pw_below_drewN | apply below_drew1 | refine below_set ?_ GE451.out) | exact HB.out)⟩⟩
                        case rest =>
                          clear HC38
                          try clear c1
                          try clear c2
                          try clear p2
                          try clear c3
                          try clear c4
                          try clear p4
                          try clear q4
                          try clear hx4
                          try clear p6
                          try clear c7
                          try clear c8
                          try clear c12
                          try clear c13
                          try clear c13b0
                          try clear c13b1
                          try clear c14
                          try clear c14b0
                          try clear c15
                          try clear c15b0
                          try clear c16
                          try clear c16b0
                          try clear c17
                          try clear c20
                          try clear c20b0
                          try clear c21
                          try clear c21b0
                          try clear c26
                          try clear c26b0
                          try clear c28
                          try clear c28b0
                          try clear c30
                          try clear c30b0
                          try clear c32
                          try clear c32b0
                          try clear c34
                          try clear c34b0
                          try clear c37
                          try clear c39
                          try clear c39b0
                          try clear c40
                          try clear c40b0
                          try clear c41
                          try clear c41b0
                          try clear p45
                          try clear q45
                          try clear hx45
                          try clear hcz25_0
                          try clear hcz25_1
                          try clear hcz25_2
                          try clear hcz25_3
                          try clear hcz27_0
                          try clear hcz27_1
                          try clear hcz27_2
                          try clear hcz27_3
                          try clear hcz29_0
                          try clear hcz29_1
                          try clear hcz29_2
                          try clear hcz29_3
                          try clear hcz31_0
                          try clear hcz31_1
                          try clear hcz31_2
                          try clear hcz31_3
                          try clear hcz33_0
                          try clear hcz33_1
                          try clear hcz33_2
                          try clear hcz33_3
                          try clear hcz35_0
                          try clear hcz35_1
                          try clear hcz35_2
                          try clear hcz35_3
                          try clear hcz36_0
                          try clear hcz36_1
                          try clear hcz36_2
                          try clear hcz36_3
                          try clear hcz42_0
                          try clear hcz42_1
                          try clear hcz42_2
                          try clear hcz42_3
                          try clear hcz43_0
                          try clear hcz43_1
                          try clear hcz43_2
                          try clear hcz43_3
                          try clear hcz44_0
                          try clear hcz44_1
                          try clear hcz44_2
                          try clear hcz44_3
                          try clear hcz45_0
                          try clear hcz45_1
                          try clear hcz45_2
                          try clear hcz45_3
                          try clear hfz25_0
                          try clear hfz25_1
                          try clear hfz25_2
                          try clear hfz25_3
                          try clear hfz27_0
                          try clear hfz27_1
                          try clear hfz27_2
                          try clear hfz27_3
                          try clear hfz29_0
                          try clear hfz29_1
                          try clear hfz29_2
                          try clear hfz29_3
                          try clear hfz31_0
                          try clear hfz31_1
                          try clear hfz31_2
                          try clear hfz31_3
                          try clear hfz33_0
                          try clear hfz33_1
                          try clear hfz33_2
                          try clear hfz33_3
                          try clear hfz35_0
                          try clear hfz35_1
                          try clear hfz35_2
                          try clear hfz35_3
                          try clear hfz36_0
                          try clear hfz36_1
                          try clear hfz36_2
                          try clear hfz36_3
                          try clear hfz42_0
                          try clear hfz42_1
                          try clear hfz42_2
                          try clear hfz42_3
                          try clear hfz43_0
                          try clear hfz43_1
                          try clear hfz43_2
                          try clear hfz43_3
                          try clear hfz44_0
                          try clear hfz44_1
                          try clear hfz44_2
                          try clear hfz44_3
                          try clear hfz45_0
                          try clear hfz45_1
                          try clear hfz45_2
                          try clear hfz45_3
                          try clear hx450_0
                          try clear hx450_1
                          try clear hx450_2
                          try clear hx450_3
                          try clear hx450_4
                          try clear p2
                          try clear p4
                          try clear p450
                          try clear p6
                          try clear q4
                          try clear q450
                          obtain ⟨kq, x131_37, rfl, HA, HJ37, HO_14, BK451, HB⟩ := hcut
                          cases kq with
                          | zero => exact absurd HA.out (by simp [miradorlaw17_RreCovers.j3])
                          | succ kj37 =>
                            have H := HA.out
                            clear HA
                            simp only [miradorlaw17_RreCovers.j3] at H
                            by_cases c46 : x131_37 = true
                            · subst c46
                              have H1 : (if 0 ≤ x16_2 then (if x16_2 < (t446.length : Int) then (if 0 ≤ (wrap64 ((wrap64 (a5 * a0)) + a4)) then (if (wrap64 ((wrap64 (a5 * a0)) + a4)) < (l2.length : Int) then (if ((rd_T31 t446 x16_2).f0) = (rd l2 (wrap64 ((wrap64 (a5 * a0)) + a4))) then (miradorlaw17_RreCovers.l0 kj37 a0 a1 l2 a3 a4 a5 true t446 (wrap64 (x15_2 + 1)) (wrap64 (x16_2 + 1))) else (some false)) else (none)) else (none)) else (none)) else (none)) = some r := by rw [if_pos rfl] at H; exact H
                              clear H
                              have H := H1
                              clear H1
                              by_cases c47 : 0 ≤ x16_2
                              · rw [if_pos c47] at H
                                have c47b0 : decide (0 ≤ x16_2) = true := decide_eq_true c47
                                clear c47
                                by_cases c48 : x16_2 < (t446.length : Int)
                                · rw [if_pos c48] at H
                                  have c48b0 : decide (x16_2 < (t446.length : Int)) = true := decide_eq_true c48
                                  clear c48
                                  obtain ⟨ji49, hji49⟩ : ∃ j_ : Int, (wrap64 ((wrap64 (a5 * a0)) + a4)) = j_ := ⟨_, rfl⟩
                                  replace H : (if 0 ≤ (ji49) then (if (ji49) < (l2.length : Int) then (if ((rd_T31 t446 x16_2).f0) = (rd l2 (ji49)) then (miradorlaw17_RreCovers.l0 kj37 a0 a1 l2 a3 a4 a5 true t446 (wrap64 (x15_2 + 1)) (wrap64 (x16_2 + 1))) else (some false)) else (none)) else (none)) = some r := by first | (rw [hji49] at H; exact H) | (simp only [hji49] at H ⊢; exact H)
                                  have hji49w : (IntKind.i64.wrap ((wrap64 (a5 * a0)) + a4)) = ji49 := (i64_w _).trans hji49
                                  by_cases c50 : 0 ≤ (ji49)
                                  · rw [if_pos c50] at H
                                    have c50b0 : decide (0 ≤ (ji49)) = true := decide_eq_true c50
                                    clear c50
                                    by_cases c51 : (ji49) < (l2.length : Int)
                                    · rw [if_pos c51] at H
                                      have c51b0 : decide ((ji49) < (l2.length : Int)) = true := decide_eq_true c51
                                      clear c51
                                      by_cases c52 : ((rd_T31 t446 x16_2).f0) = (rd l2 (ji49))
                                      · rw [if_pos c52] at H
                                        have c52b0 : (((rd_T31 t446 x16_2).f0) == (rd l2 (ji49))) = true := beq_iff_eq.mpr c52
                                        have c52b1 : (((rd_T31 t446 x16_2).f0) != (rd l2 (ji49))) = false := bne_eq_false_iff_eq.mpr c52
                                        clear c52
                                        have H' := Aside0.mk H
                                        clear H
                                        have p452 : 0 ≤ (x16_2 : Int) := of_decide_eq_true (by first | (with_reducible assumption) | assumption)
                                        have q452 : x16_2 < (t446.length : Int) := of_decide_eq_true (by first | (with_reducible assumption) | assumption)
                                        obtain ⟨ad452, e452, hx452_0, hx452_1, hx452_2, hx452_3, hx452_4⟩ := at_T31 (Kd.R_reads' HO_14.out).2.2 x16_2 p452 q452
                                        obtain rfl : ad450 = ad452 := (by injection e452)
                                        replace p452 := eq_true p452
                                        replace q452 := eq_true q452
                                        have p453 : 0 ≤ ((ji49) : Int) := of_decide_eq_true (by first | (with_reducible assumption) | assumption)
                                        have q453 : (ji49) < (l2.length : Int) := of_decide_eq_true (by first | (with_reducible assumption) | assumption)
                                        obtain ⟨ad453, e453, hx453_0⟩ := Kd.at_int HR2.out (ji49) p453 q453
                                        cases e453
                                        replace hx453_0 := (HB.out.cell (World.block_lt_of_cell? w _ hx453_0)).trans hx453_0
                                        replace p453 := eq_true p453
                                        replace q453 := eq_true q453
                                        go_wp2
                                        repeat (go_quiet (fail); try go_wp2)
                                        go_roundg kj37
                                        case measure => have := HJ8.out; have := HK2.out; have := HJ21.out; have := HJ37.out; omega
                                        case rel => exact ⟨(wrap64 (x15_2 + 1)), (wrap64 (x16_2 + 1)), (by first | rfl | (simp; done) | (simp [*]; done)), (by first | rfl | (simp; done) | (simp [*]; done)), H', ⟨by have := HJ8.out; have := HK2.out; have := HJ21.out; have := HJ37.out; omega⟩, ⟨by (with_reducible repeat (first | apply Kd.R_alloc | apply Kd.R_drewN | apply Kd.R_drew)); exact HO_14.out⟩, ⟨by repeat (first | (with_reducible first | exact HB.out | apply below_alloc | apply pw_below_drewN | apply below_drew1 | refine below_set ?_ GE451.out) | exact HB.out)⟩⟩
                                      · rw [if_neg c52] at H
                                        have c52b0 : (((rd_T31 t446 x16_2).f0) == (rd l2 (ji49))) = false := beq_eq_false_iff_ne.mpr c52
                                        have c52b1 : (((rd_T31 t446 x16_2).f0) != (rd l2 (ji49))) = true := bne_iff_ne.mpr c52
                                        rw [HRT.out] at H
                                        exact absurd (Option.some.inj H) (by decide)
                                    · rw [if_neg c51] at H
                                      exact absurd H (by simp)
                                  · rw [if_neg c50] at H
                                    exact absurd H (by simp)
                                · rw [if_neg c48] at H
                                  exact absurd H (by simp)
                              · rw [if_neg c47] at H
                                exact absurd H (by simp)
                            · replace c46 := Bool.eq_false_iff.mpr c46
                              subst c46
                              have H1 : (miradorlaw17_RreCovers.l0 kj37 a0 a1 l2 a3 a4 a5 true t446 x15_2 (wrap64 (x16_2 + 1))) = some r := by rw [if_neg (show ¬ (false = true) by decide)] at H; exact H
                              clear H
                              have H := H1
                              clear H1
                              have H' := Aside0.mk H
                              clear H
                              go_wp2
                              repeat (go_quiet (fail); try go_wp2)
                              go_roundg kj37
                              case measure => have := HJ8.out; have := HK2.out; have := HJ21.out; have := HJ37.out; omega
                              case rel => exact ⟨(x15_2), (wrap64 (x16_2 + 1)), (by first | rfl | (simp; done) | (simp [*]; done)), (by first | rfl | (simp; done) | (simp [*]; done)), H', ⟨by have := HJ8.out; have := HK2.out; have := HJ21.out; have := HJ37.out; omega⟩, ⟨by (with_reducible repeat (first | apply Kd.R_alloc | apply Kd.R_drewN | apply Kd.R_drew)); exact HO_14.out⟩, ⟨by repeat (first | (with_reducible first | exact HB.out | apply below_alloc | apply pw_below_drewN | apply below_drew1 | refine below_set ?_ GE451.out) | exact HB.out)⟩⟩
                · rw [if_neg c21] at H
                  exact absurd H (by simp)
              · rw [if_neg c20] at H
                have c20b0 : decide (x16_2 < (t446.length : Int)) = false := decide_eq_false c20
                clear c20
                have H1 : (if 0 ≤ (wrap64 ((wrap64 (a5 * a0)) + a4)) then (if (wrap64 ((wrap64 (a5 * a0)) + a4)) < (l2.length : Int) then (if ((x15_2 == 1) == ((rd l2 (wrap64 ((wrap64 (a5 * a0)) + a4))) != a3)) = true then (some (decide (x15_2 ≤ 1))) else (some false)) else (none)) else (none)) = some r := by (first | rw [if_pos rfl] at H | rw [if_pos trivial] at H); exact H
                clear H
                have H := H1
                clear H1
                obtain ⟨ji53, hji53⟩ : ∃ j_ : Int, (wrap64 ((wrap64 (a5 * a0)) + a4)) = j_ := ⟨_, rfl⟩
                replace H : (if 0 ≤ (ji53) then (if (ji53) < (l2.length : Int) then (if ((x15_2 == 1) == ((rd l2 (ji53)) != a3)) = true then (some (decide (x15_2 ≤ 1))) else (some false)) else (none)) else (none)) = some r := by first | (rw [hji53] at H; exact H) | (simp only [hji53] at H ⊢; exact H)
                have hji53w : (IntKind.i64.wrap ((wrap64 (a5 * a0)) + a4)) = ji53 := (i64_w _).trans hji53
                by_cases c54 : 0 ≤ (ji53)
                · rw [if_pos c54] at H
                  have c54b0 : decide (0 ≤ (ji53)) = true := decide_eq_true c54
                  clear c54
                  by_cases c55 : (ji53) < (l2.length : Int)
                  · rw [if_pos c55] at H
                    have c55b0 : decide ((ji53) < (l2.length : Int)) = true := decide_eq_true c55
                    clear c55
                    by_cases c56 : ((x15_2 == 1) == ((rd l2 (ji53)) != a3)) = true
                    · rw [if_pos c56] at H
                      have c56b0 : ((x15_2 == 1) == ((rd l2 (ji53)) != a3)) = true := c56
                      (try (have c56b1 : decide ((x15_2 == 1) = ((rd l2 (ji53)) != a3)) = true := by simpa using c56))
                      (try (have c56b2 : ((x15_2 == 1) == ((rd l2 (ji53)) != a3)) = true := by simpa using c56))
                      clear c56
                      obtain rfl := Option.some.inj H
                      obtain ⟨Ao57, co57, eo57⟩ := Kd.R_slice HO_14.out
                      subst eo57
                      have p449 : 0 ≤ ((ji53) : Int) := of_decide_eq_true (by first | (with_reducible assumption) | assumption)
                      have q449 : (ji53) < (l2.length : Int) := of_decide_eq_true (by first | (with_reducible assumption) | assumption)
                      obtain ⟨ad449, e449, hx449_0⟩ := Kd.at_int HR2.out (ji53) p449 q449
                      cases e449
                      replace hx449_0 := (HB.out.cell (World.block_lt_of_cell? w _ hx449_0)).trans hx449_0
                      replace p449 := eq_true p449
                      replace q449 := eq_true q449
                      go_wp2
                      repeat (go_quiet (fail); try go_wp2)
                      go_ret
                      exact ⟨by first | rfl | (simp [errW_none, errW_some] <;> rfl) | (simp only [← hji53]; first | rfl | (simp [errW_none, errW_some] <;> rfl)) | (simp [*, errW_none, errW_some] <;> rfl), by repeat (first | (with_reducible first | exact HB.out | apply below_alloc | apply pw_below_drewN | apply below_drew1) | exact HB.out)⟩
                    · rw [if_neg c56] at H
                      have c56b0 : ((x15_2 == 1) == ((rd l2 (ji53)) != a3)) = false := by simpa using c56
                      (try (have c56b1 : decide ((x15_2 == 1) = ((rd l2 (ji53)) != a3)) = false := by simpa using c56))
                      (try (have c56b2 : ((x15_2 == 1) == ((rd l2 (ji53)) != a3)) = false := by simpa using c56))
                      (try (have c56b3 : ¬ ((x15_2 == 1) = ((rd l2 (ji53)) != a3)) := by simpa using c56))
                      clear c56
                      rw [HRT.out] at H
                      exact absurd (Option.some.inj H) (by decide)
                  · rw [if_neg c55] at H
                    exact absurd H (by simp)
                · rw [if_neg c54] at H
                  exact absurd H (by simp)
  · replace c8 := Bool.eq_false_iff.mpr c8
    subst c8
    have H1 : (some false) = some r := by rw [if_neg (show ¬ (false = true) by decide)] at H; exact H
    clear H
    have H := H1
    clear H1
    rw [HRT.out] at H
    exact absurd (Option.some.inj H) (by decide)

/-- THE ONE PURE STATEMENT of miradorlaw17_RreCovers: yours. -/
def miradorlaw17_RreCovers.Pure : Prop := ∀ (a0 : Int) (a1 : Int) (l2 : List Int) (a3 : Int) (a4 : Int) (a5 : Int), (Lit.int .i64 a0).wf = true → (Lit.int .i64 a1).wf = true → l2.length ≤ maxLen → l2.length * 8 ≤ 140737488351232 → (∀ x ∈ l2, (Lit.int .i64 x).wf = true) → (Lit.int .i64 a3).wf = true → (Lit.int .i64 a4).wf = true → (Lit.int .i64 a5).wf = true → ∃ k, miradorlaw17_RreCovers.f k a0 a1 l2 a3 a4 a5 = some true
theorem miradorlaw17_RreCovers.walk (P : miradorlaw17_RreCovers.Pure) (a0 : Int) (a1 : Int) (a2 : Option Addr) (len2 cap2 : Nat) (z2 : List Int) (a3 : Int) (a4 : Int) (a5 : Int) (w : World) (w0 : (Lit.int .i64 a0).wf = true) (w1 : (Lit.int .i64 a1).wf = true) (w2 : (a2 = none ∧ len2 = 0 ∧ cap2 = 0 ∧ z2 = []) ∨ ∃ x, a2 = some x ∧ len2 ≤ cap2 ∧ cap2 ≤ maxLen ∧ z2.length = cap2 ∧ (∀ i, i < z2.length → w.cell? (x.add i) = some (.int .i64 (z2.getD i 0))) ∧ ∀ n ∈ z2, (Lit.int .i64 n).wf = true) (y2 : len2 * 8 ≤ 140737488351232) (w3 : (Lit.int .i64 a3).wf = true) (w4 : (Lit.int .i64 a4).wf = true) (w5 : (Lit.int .i64 a5).wf = true) :
    Calls Try.prog 7 #[.int .i64 a0, .int .i64 a1, .slice a2 len2 cap2, .int .i64 a3, .int .i64 a4, .int .i64 a5] w fun e w' => e = .returned (.bool true) ∧ Below w.heap.size w w' := by
  obtain ⟨l2, rfl, hr2, hm2, hw2, hc2⟩ := ReadsInt.ofRowC w2
  obtain ⟨k, h⟩ := P a0 a1 l2 a3 a4 a5 w0 w1 hm2 y2 hw2 w3 w4 w5
  refine (miradorlaw17_RreCovers.calls1 k a0 a1 _ _ l2 a3 a4 a5 true w (Kd.C_of_reads (d := (0 : Int)) (h1 := fun _ => rfl) hr2) hc2 rfl h).mono ?_
  rintro e w' ⟨rfl, hd⟩
  exact ⟨rfl, hd⟩

end Go.Proofs.Ytkmfhfejogjnfaa.X
