/- What each Go function that these laws use answers: as a Lean function, with the proof that the machine's call comes to it. Written by a program of this session (xprint.py). -/
import Derived.Test.YtkobiblgbpnlaaaXx0
import Derived.Test.YtkobiblgbpnlaaaXx1
import Derived.Test.YtkobiblgbpnlaaaXx19
import Derived.Test.YtkobiblgbpnlaaaXx20
import Derived.Test.YtkobiblgbpnlaaaXx21
import Derived.Test.YtkobiblgbpnlaaaXx29
import Derived.Test.YtkobiblgbpnlaaaXx36
namespace Go.Proofs.Ytkobiblgbpnlaaa.X
open Go.RowKit Go.Proofs.YtkobiblgbpnlaaaW.PrintWords Go.Proofs.YtkobiblgbpnlaaaW.PrintLast Go.Proofs.YtkobiblgbpnlaaaW.PrintMore
attribute [local go_sem] max2_int min2_int max_two min_two max_three min_three max_four min_four   -- for this text's walks alone
set_option linter.unusedVariables false
set_option linter.unusedSimpArgs false

attribute [local go_sem high] eqA26
/-! ### miradorlaw15_RegionBounds: function 8 -/
mutual
def miradorlaw15_RegionBounds.j0 : Nat → List (S26) → Int → Int → Bool → Bool → Int → Int → Int → Int → Option (Bool)
  | 0, _, _, _, _, _, _, _, _, _ => none
  | k + 1, x0, x1, x2, x7, x10, x589000, x589001, x589002, x589003 => (region_Has.f k x0 x1 x2).bind fun t592 => (if t592 = true then (miradorlaw15_RegionBounds.j1 k x0 x7 (!x10) x589000 x589001 x589002 x589003) else (miradorlaw15_RegionBounds.j1 k x0 x7 false x589000 x589001 x589002 x589003))
def miradorlaw15_RegionBounds.j1 : Nat → List (S26) → Bool → Bool → Int → Int → Int → Int → Option (Bool)
  | 0, _, _, _, _, _, _, _ => none
  | k + 1, x0, x7, x71, x589000, x589001, x589002, x589003 => if x71 = true then (some false) else ((region_Minus.f x0 (([(⟨x589000, x589001, x589002, x589003⟩ : S26)] : List (S26)))).bind fun t608 => (if x7 = true then (if (t608.length : Int) = 0 then ((region_Both.f x0 (([(⟨x589000, x589001, 1, x589003⟩ : S26)] : List (S26)))).bind fun t611 => (if (t611.length : Int) > 0 then ((region_Both.f x0 (([(⟨wrap64 ((wrap64 (x589000 + x589002)) - 1), x589001, 1, x589003⟩ : S26)] : List (S26)))).bind fun t614 => (if (t614.length : Int) > 0 then ((region_Both.f x0 (([(⟨x589000, x589001, x589002, 1⟩ : S26)] : List (S26)))).bind fun t617 => (if (t617.length : Int) > 0 then ((region_Both.f x0 (([(⟨x589000, wrap64 ((wrap64 (x589001 + x589003)) - 1), x589002, 1⟩ : S26)] : List (S26)))).bind fun t620 => (if (t620.length : Int) > 0 then ((region_Area.f k x0).bind fun t623 => (some (decide (t623 ≤ (wrap64 (x589002 * x589003)))))) else (some false))) else (some false))) else (some false))) else (some false))) else (some false)) else (some false)))
end
def miradorlaw15_RegionBounds.f (k : Nat) (l0 : List (S26)) (a1 : Int) (a2 : Int) : Option (Bool) := (miradorlaw15_works.f k).bind fun t583 => (if t583 = true then (if (l0.length : Int) > 12 then (some t583) else ((region_Bounds.f k l0).bind fun bt584 => ((region_Make.f l0).bind fun t589 => (if (t589.length : Int) = 0 then (some (bt584.1 == 0 && (bt584.2.1 == 0 && (bt584.2.2.1 == 0 && (bt584.2.2.2 == 0))))) else (if a1 ≥ bt584.1 then (if a2 ≥ bt584.2.1 then (if a1 < (wrap64 (bt584.1 + bt584.2.2.1)) then (miradorlaw15_RegionBounds.j0 k l0 a1 a2 t583 (decide (a2 < (wrap64 (bt584.2.1 + bt584.2.2.2)))) bt584.1 bt584.2.1 bt584.2.2.1 bt584.2.2.2) else (miradorlaw15_RegionBounds.j0 k l0 a1 a2 t583 false bt584.1 bt584.2.1 bt584.2.2.1 bt584.2.2.2)) else (miradorlaw15_RegionBounds.j0 k l0 a1 a2 t583 false bt584.1 bt584.2.1 bt584.2.2.1 bt584.2.2.2)) else (miradorlaw15_RegionBounds.j0 k l0 a1 a2 t583 false bt584.1 bt584.2.1 bt584.2.2.1 bt584.2.2.2)))))) else (some false))
theorem miradorlaw15_RegionBounds.mono_l : ∀ k, (∀ y0 y1 y2 y3 y4 y5 y6 y7 y8, LeO (miradorlaw15_RegionBounds.j0 k y0 y1 y2 y3 y4 y5 y6 y7 y8) (miradorlaw15_RegionBounds.j0 (k + 1) y0 y1 y2 y3 y4 y5 y6 y7 y8)) ∧ (∀ y0 y1 y2 y3 y4 y5 y6, LeO (miradorlaw15_RegionBounds.j1 k y0 y1 y2 y3 y4 y5 y6) (miradorlaw15_RegionBounds.j1 (k + 1) y0 y1 y2 y3 y4 y5 y6))
  | 0 => ⟨fun _ _ _ _ _ _ _ _ _ r h => by simp [miradorlaw15_RegionBounds.j0] at h, fun _ _ _ _ _ _ _ r h => by simp [miradorlaw15_RegionBounds.j1] at h⟩
  | k + 1 => by
    obtain ⟨ih0, ih1⟩ := miradorlaw15_RegionBounds.mono_l k
    refine ⟨?_, ?_⟩
    · intro y0 y1 y2 y3 y4 y5 y6 y7 y8
      unfold miradorlaw15_RegionBounds.j0
      repeat' first
      | (with_reducible exact ih0 _ _ _ _ _ _ _ _ _)
      | (with_reducible exact ih1 _ _ _ _ _ _ _)
      | (with_reducible exact miradorlaw15_works.mono _)
      | (with_reducible exact region_Area.mono _ _)
      | (with_reducible exact region_Bounds.mono _ _)
      | (with_reducible exact region_Has.mono _ _ _ _)
      | (with_reducible exact LeO.refl _)
      | (with_reducible exact LeO.none _)
      | (with_reducible refine LeO.ite ?_ ?_)
      | (with_reducible refine LeO.bind ?_ (fun _ => ?_))
      | exact ih0 _ _ _ _ _ _ _ _ _
      | exact ih1 _ _ _ _ _ _ _
      | exact miradorlaw15_works.mono _
      | exact region_Area.mono _ _
      | exact region_Bounds.mono _ _
      | exact region_Has.mono _ _ _ _
      | exact LeO.none _
      | refine LeO.ite ?_ ?_
      | refine LeO.bind ?_ (fun _ => ?_)
    · intro y0 y1 y2 y3 y4 y5 y6
      unfold miradorlaw15_RegionBounds.j1
      repeat' first
      | (with_reducible exact ih0 _ _ _ _ _ _ _ _ _)
      | (with_reducible exact ih1 _ _ _ _ _ _ _)
      | (with_reducible exact miradorlaw15_works.mono _)
      | (with_reducible exact region_Area.mono _ _)
      | (with_reducible exact region_Bounds.mono _ _)
      | (with_reducible exact region_Has.mono _ _ _ _)
      | (with_reducible exact LeO.refl _)
      | (with_reducible exact LeO.none _)
      | (with_reducible refine LeO.ite ?_ ?_)
      | (with_reducible refine LeO.bind ?_ (fun _ => ?_))
      | exact ih0 _ _ _ _ _ _ _ _ _
      | exact ih1 _ _ _ _ _ _ _
      | exact miradorlaw15_works.mono _
      | exact region_Area.mono _ _
      | exact region_Bounds.mono _ _
      | exact region_Has.mono _ _ _ _
      | exact LeO.none _
      | refine LeO.ite ?_ ?_
      | refine LeO.bind ?_ (fun _ => ?_)
theorem miradorlaw15_RegionBounds.mono : ∀ a0 a1 a2 k, LeO (miradorlaw15_RegionBounds.f k a0 a1 a2) (miradorlaw15_RegionBounds.f (k + 1) a0 a1 a2) := by
  intro a0 a1 a2 k
  obtain ⟨ih0, ih1⟩ := miradorlaw15_RegionBounds.mono_l k
  unfold miradorlaw15_RegionBounds.f
  repeat' first
      | (with_reducible exact ih0 _ _ _ _ _ _ _ _ _)
      | (with_reducible exact ih1 _ _ _ _ _ _ _)
      | (with_reducible exact miradorlaw15_works.mono _)
      | (with_reducible exact region_Area.mono _ _)
      | (with_reducible exact region_Bounds.mono _ _)
      | (with_reducible exact region_Has.mono _ _ _ _)
      | (with_reducible exact LeO.refl _)
      | (with_reducible exact LeO.none _)
      | (with_reducible refine LeO.ite ?_ ?_)
      | (with_reducible refine LeO.bind ?_ (fun _ => ?_))
      | exact ih0 _ _ _ _ _ _ _ _ _
      | exact ih1 _ _ _ _ _ _ _
      | exact miradorlaw15_works.mono _
      | exact region_Area.mono _ _
      | exact region_Bounds.mono _ _
      | exact region_Has.mono _ _ _ _
      | exact LeO.none _
      | refine LeO.ite ?_ ?_
      | refine LeO.bind ?_ (fun _ => ?_)
def miradorlaw15_RegionBounds.T18 : Bool × List (List Nat × List Nat) := (true, [([], []), ([0], [0]), ([1], [1]), ([1, 2], [1, 2]), ([3, 1], [3]), ([4], [4]), ([4], [4]), ([5, 6, 4, 4], [4, 5, 6]), ([7, 4], [4, 7]), ([8, 4], [4, 8]), ([4, 9], [4, 9]), ([10, 7], [10]), ([11], [11]), ([11], [11]), ([12, 13, 11, 11], [11, 12, 13]), ([14, 11], [11, 14]), ([15, 11], [11, 15]), ([11, 16], [11, 16]), ([17, 14], [17]), ([18], [18]), ([18], [18]), ([19, 20, 18, 18], [18, 19, 20]), ([21, 18], [18, 21]), ([22, 18], [18, 22]), ([18, 23], [18, 23]), ([24, 21], [24]), ([25], [25]), ([25], [25]), ([26, 27, 25, 25], [25, 26, 27]), ([28, 25], [25, 28]), ([29, 25], [25, 29]), ([25, 30], [25, 30]), ([31, 28], [31]), ([32], [32]), ([33, 32, 32], [32, 33]), ([32], [32]), ([35, 32], [32, 35]), ([32], [32]), ([37, 32], [32, 37]), ([36, 38, 32], [32, 36, 38]), ([34, 39, 32], [32, 34, 39]), ([32, 40], [32, 40]), ([41, 34, 0, 1, 2, 3, 4, 5, 6, 7, 8, 9, 10, 11, 12, 13, 14, 15, 16, 17, 18, 19, 20, 21, 22, 23, 24, 25, 26, 27, 28, 29, 30, 31, 32, 33, 34, 35, 36, 37, 38, 39, 40, 41], [41])])
def miradorlaw15_RegionBounds.B18 : List Nat := [0, 1, 3, 7, 15, 31, 31, 127, 255, 511, 1023, 2047, 4095, 4095, 16383, 32767, 65535, 131071, 262143, 524287, 524287, 2097151, 4194303, 8388607, 16777215, 33554431, 67108863, 67108863, 268435455, 536870911, 1073741823, 2147483647, 4294967295, 8589934591, 17179869183, 8589934591, 42949672959, 8589934591, 146028888063, 523986010111, 1099511627775, 2199023255551, 4398046511103]
theorem miradorlaw15_RegionBounds.tab18 : rtab .any (opsOf Try.f8 18) = miradorlaw15_RegionBounds.T18 := by kernel_rfl
theorem miradorlaw15_RegionBounds.bits18 : waitsOk miradorlaw15_RegionBounds.T18.2 miradorlaw15_RegionBounds.B18 = true := by kernel_rfl
set_option maxHeartbeats 8000000 in
set_option maxRecDepth 100000 in
theorem miradorlaw15_RegionBounds.calls1 (k : Nat) (A0 : Option Addr) (c0 : Nat) (l0 : List (S26)) (a1 : Int) (a2 : Int) (r : Bool) (w : World) (hr0 : Kd.C k26 w A0 l0.length l0) (hc0 : l0.length ≤ c0) (hr_ : r = true) (h : miradorlaw15_RegionBounds.f k l0 a1 a2 = some r) :
    Calls Try.prog 8 #[.slice A0 l0.length c0, .int .i64 a1, .int .i64 a2] w fun e w' => e = .returned (.bool r) ∧ Below w.heap.size w w' := by
  have hu26 := Try.underlying26
  have HR0 := Aside0.mk hr0
  have HC0 := Aside0.mk hc0
  clear hr0 hc0
  have HB := Aside0.mk (Below.refl w.heap.size w)
  have H : ((miradorlaw15_works.f k).bind fun t583 => (if t583 = true then (if (l0.length : Int) > 12 then (some t583) else ((region_Bounds.f k l0).bind fun bt584 => ((region_Make.f l0).bind fun t589 => (if (t589.length : Int) = 0 then (some (bt584.1 == 0 && (bt584.2.1 == 0 && (bt584.2.2.1 == 0 && (bt584.2.2.2 == 0))))) else (if a1 ≥ bt584.1 then (if a2 ≥ bt584.2.1 then (if a1 < (wrap64 (bt584.1 + bt584.2.2.1)) then (miradorlaw15_RegionBounds.j0 k l0 a1 a2 t583 (decide (a2 < (wrap64 (bt584.2.1 + bt584.2.2.2)))) bt584.1 bt584.2.1 bt584.2.2.1 bt584.2.2.2) else (miradorlaw15_RegionBounds.j0 k l0 a1 a2 t583 false bt584.1 bt584.2.1 bt584.2.2.1 bt584.2.2.2)) else (miradorlaw15_RegionBounds.j0 k l0 a1 a2 t583 false bt584.1 bt584.2.1 bt584.2.2.1 bt584.2.2.2)) else (miradorlaw15_RegionBounds.j0 k l0 a1 a2 t583 false bt584.1 bt584.2.1 bt584.2.2.1 bt584.2.2.2)))))) else (some false))) = some r := h
  clear h
  have HRT := Aside0.mk hr_
  clear hr_
  replace H := Option.bind_eq_some_iff.mp H
  obtain ⟨t583, A40, H⟩ := H
  replace H : (if t583 = true then (if (l0.length : Int) > 12 then (some t583) else ((region_Bounds.f k l0).bind fun bt584 => ((region_Make.f l0).bind fun t589 => (if (t589.length : Int) = 0 then (some (bt584.1 == 0 && (bt584.2.1 == 0 && (bt584.2.2.1 == 0 && (bt584.2.2.2 == 0))))) else (if a1 ≥ bt584.1 then (if a2 ≥ bt584.2.1 then (if a1 < (wrap64 (bt584.1 + bt584.2.2.1)) then (miradorlaw15_RegionBounds.j0 k l0 a1 a2 t583 (decide (a2 < (wrap64 (bt584.2.1 + bt584.2.2.2)))) bt584.1 bt584.2.1 bt584.2.2.1 bt584.2.2.2) else (miradorlaw15_RegionBounds.j0 k l0 a1 a2 t583 false bt584.1 bt584.2.1 bt584.2.2.1 bt584.2.2.2)) else (miradorlaw15_RegionBounds.j0 k l0 a1 a2 t583 false bt584.1 bt584.2.1 bt584.2.2.1 bt584.2.2.2)) else (miradorlaw15_RegionBounds.j0 k l0 a1 a2 t583 false bt584.1 bt584.2.1 bt584.2.2.1 bt584.2.2.2)))))) else (some false)) = some r := H
  have A4 := Aside0.mk A40
  clear A40
  by_cases c5 : t583 = true
  · subst c5
    have H1 : (if (l0.length : Int) > 12 then (some true) else ((region_Bounds.f k l0).bind fun bt584 => ((region_Make.f l0).bind fun t589 => (if (t589.length : Int) = 0 then (some (bt584.1 == 0 && (bt584.2.1 == 0 && (bt584.2.2.1 == 0 && (bt584.2.2.2 == 0))))) else (if a1 ≥ bt584.1 then (if a2 ≥ bt584.2.1 then (if a1 < (wrap64 (bt584.1 + bt584.2.2.1)) then (miradorlaw15_RegionBounds.j0 k l0 a1 a2 true (decide (a2 < (wrap64 (bt584.2.1 + bt584.2.2.2)))) bt584.1 bt584.2.1 bt584.2.2.1 bt584.2.2.2) else (miradorlaw15_RegionBounds.j0 k l0 a1 a2 true false bt584.1 bt584.2.1 bt584.2.2.1 bt584.2.2.2)) else (miradorlaw15_RegionBounds.j0 k l0 a1 a2 true false bt584.1 bt584.2.1 bt584.2.2.1 bt584.2.2.2)) else (miradorlaw15_RegionBounds.j0 k l0 a1 a2 true false bt584.1 bt584.2.1 bt584.2.2.1 bt584.2.2.2)))))) = some r := by rw [if_pos rfl] at H; exact H
    clear H
    have H := H1
    clear H1
    by_cases c6 : (l0.length : Int) > 12
    · rw [if_pos c6] at H
      have c6b0 : decide (12 < (l0.length : Int)) = true := decide_eq_true c6
      have c6b1 : decide (12 < l0.length) = true := decide_eq_true (by omega)
      clear c6
      obtain rfl := Option.some.inj H
      go_enter Try.func8, Try.ntmps8
      go_wp2_with (first | ((with_reducible refine gate_callee (f := 10) rfl ?_); refine goesL_ (some 16) rfl rfl Try.func10 (by kernel_rfl) rfl #[] rfl (by (try simp only [List.map_toArray, List.map_cons, List.map_nil]); first | done | rfl | (simp only [List.length_drop, List.length_take]; rfl)) ?_; (with_reducible refine (miradorlaw15_works.calls k  true _ A4.out).mono ?_); rintro e w7 ⟨rfl, hb⟩; refine ⟨_, rfl, ?_⟩; have n0_ := Aside0.mk (below_step (by repeat (first | (with_reducible first | exact HB.out | apply below_alloc | apply pw_below_drewN | apply below_drew1) | exact HB.out)) hb); clear HB; have HB := n0_; clear n0_; (try clear hb); (try clear hb2); (try clear hk); (try clear hi)))
      go_ret
      exact ⟨by first | rfl | (simp [errW_none, errW_some] <;> rfl) | (simp [*, errW_none, errW_some] <;> rfl), by repeat (first | (with_reducible first | exact HB.out | apply below_alloc | apply pw_below_drewN | apply below_drew1) | exact HB.out)⟩
    · rw [if_neg c6] at H
      have c6b0 : decide (12 < (l0.length : Int)) = false := decide_eq_false c6
      have c6b1 : decide (12 < l0.length) = false := decide_eq_false (by omega)
      clear c6
      replace H := Option.bind_eq_some_iff.mp H
      obtain ⟨⟨t584, t585, t586, t587⟩, A80, H⟩ := H
      replace H : ((region_Make.f l0).bind fun t589 => (if (t589.length : Int) = 0 then (some (t584 == 0 && (t585 == 0 && (t586 == 0 && (t587 == 0))))) else (if a1 ≥ t584 then (if a2 ≥ t585 then (if a1 < (wrap64 (t584 + t586)) then (miradorlaw15_RegionBounds.j0 k l0 a1 a2 true (decide (a2 < (wrap64 (t585 + t587)))) t584 t585 t586 t587) else (miradorlaw15_RegionBounds.j0 k l0 a1 a2 true false t584 t585 t586 t587)) else (miradorlaw15_RegionBounds.j0 k l0 a1 a2 true false t584 t585 t586 t587)) else (miradorlaw15_RegionBounds.j0 k l0 a1 a2 true false t584 t585 t586 t587)))) = some r := H
      have A8 := Aside0.mk A80
      clear A80
      replace H := Option.bind_eq_some_iff.mp H
      obtain ⟨t589, A90, H⟩ := H
      replace H : (if (t589.length : Int) = 0 then (some (t584 == 0 && (t585 == 0 && (t586 == 0 && (t587 == 0))))) else (if a1 ≥ t584 then (if a2 ≥ t585 then (if a1 < (wrap64 (t584 + t586)) then (miradorlaw15_RegionBounds.j0 k l0 a1 a2 true (decide (a2 < (wrap64 (t585 + t587)))) t584 t585 t586 t587) else (miradorlaw15_RegionBounds.j0 k l0 a1 a2 true false t584 t585 t586 t587)) else (miradorlaw15_RegionBounds.j0 k l0 a1 a2 true false t584 t585 t586 t587)) else (miradorlaw15_RegionBounds.j0 k l0 a1 a2 true false t584 t585 t586 t587))) = some r := H
      have A9 := Aside0.mk A90
      clear A90
      by_cases c10 : (t589.length : Int) = 0
      · rw [if_pos c10] at H
        have c10b0 : ((t589.length : Int) == 0) = true := beq_iff_eq.mpr c10
        have c10b1 : ((t589.length : Int) != 0) = false := bne_eq_false_iff_eq.mpr c10
        clear c10
        obtain rfl := Option.some.inj H
        go_enter Try.func8, Try.ntmps8
        go_wp2_with (first | ((with_reducible refine gate_callee (f := 10) rfl ?_); refine goesL_ (some 16) rfl rfl Try.func10 (by kernel_rfl) rfl #[] rfl (by (try simp only [List.map_toArray, List.map_cons, List.map_nil]); first | done | rfl | (simp only [List.length_drop, List.length_take]; rfl)) ?_; (with_reducible refine (miradorlaw15_works.calls k  true _ A4.out).mono ?_); rintro e w11 ⟨rfl, hb⟩; refine ⟨_, rfl, ?_⟩; have n0_ := Aside0.mk (below_step (by repeat (first | (with_reducible first | exact HB.out | apply below_alloc | apply pw_below_drewN | apply below_drew1) | exact HB.out)) hb); clear HB; have HB := n0_; clear n0_; (try clear hb); (try clear hb2); (try clear hk); (try clear hi)) | ((with_reducible refine gate_callee (f := 20) rfl ?_); refine goesL_ (some 24) rfl rfl Try.func20 (by kernel_rfl) rfl #[.slice A0 l0.length c0] rfl (by (try simp only [List.map_toArray, List.map_cons, List.map_nil]); first | done | rfl | (simp only [List.length_drop, List.length_take]; rfl)) ?_; (with_reducible refine (region_Bounds.calls k _ _ l0 t584 t585 t586 t587 _ ?side1 ?side2 A8.out).mono ?_); (case side1 => repeat (first | exact (Kd.C_below HR0.out HB.out) | (with_reducible refine Kd.C_alloc ?_ _) | (with_reducible refine Kd.C_drewN ?_ _) | (with_reducible refine Kd.C_drew ?_))); (case side2 => exact HC0.out); rintro e w12 ⟨rfl, hb⟩; refine ⟨_, rfl, ?_⟩; have n0_ := Aside0.mk (below_step (by repeat (first | (with_reducible first | exact HB.out | apply below_alloc | apply pw_below_drewN | apply below_drew1) | exact HB.out)) hb); clear HB; have HB := n0_; clear n0_; (try clear hb); (try clear hb2); (try clear hk); (try clear hi)) | ((with_reducible refine gate_dst (N := 8) rfl ?_); (try (refine gate_guard (by rfl) ?_; dsimp only)); refine box_event ?hg (N := 8) ?hd (cs := #[.int .i64 0, .int .i64 0, .int .i64 0, .int .i64 0]) (t := 26) ?hr ?_; (case hd => rfl); (case hg => rfl); (case hr => first | (go_simp; done) | (go_simp; rfl)); intro gb588 hg w13 hbox hb; have n0_ := Aside0.mk (below_step (by repeat (first | (with_reducible first | exact HB.out | apply below_alloc | apply pw_below_drewN | apply below_drew1) | exact HB.out)) hb); have n1_ := Aside0.mk (hbox); have n2_ := Aside0.mk ((by rw [hg]; exact (below_size (by repeat (first | (with_reducible first | exact HB.out | apply below_alloc | apply pw_below_drewN | apply below_drew1) | exact HB.out))) : w.heap.size ≤ gb588)); have n3_ := Aside0.mk ((by rw [hg]; exact (below_size (by repeat (first | (with_reducible first | exact HB.out | apply below_alloc | apply pw_below_drewN | apply below_drew1) | exact HB.out))) : w.heap.size ≤ gb588)); clear HB; have HB := n0_; have BK588 := n1_; have GW588 := n2_; have GE588 := n3_; clear n0_ n1_ n2_ n3_; clear hb hbox hg; have hcz14_0 : w13.cell? ⟨gb588, 0, none⟩ = some (.int .i64 0) := (blk_cell BK588.out 0).trans rfl; have hcz14_1 : w13.cell? ⟨gb588, 1, none⟩ = some (.int .i64 0) := (blk_cell BK588.out 1).trans rfl; have hcz14_2 : w13.cell? ⟨gb588, 2, none⟩ = some (.int .i64 0) := (blk_cell BK588.out 2).trans rfl; have hcz14_3 : w13.cell? ⟨gb588, 3, none⟩ = some (.int .i64 0) := (blk_cell BK588.out 3).trans rfl; have hfz14_0 := blk_frozen BK588.out 0; have hfz14_1 := blk_frozen BK588.out 1; have hfz14_2 := blk_frozen BK588.out 2; have hfz14_3 := blk_frozen BK588.out 3) | ((with_reducible refine gate_callee (f := 11) rfl ?_); refine goesL_ (some 26) rfl rfl Try.func11 (by kernel_rfl) rfl #[.slice A0 l0.length c0] rfl (by (try simp only [List.map_toArray, List.map_cons, List.map_nil]); first | done | rfl | (simp only [List.length_drop, List.length_take]; rfl)) ?_; (with_reducible refine (region_Make.calls _ _ l0 t589 _ ?side1 ?side2 A9.out).mono ?_); (case side1 => exact Kd.C_below HR0.out (by repeat (first | (with_reducible first | exact HB.out | apply below_alloc | apply pw_below_drewN | apply below_drew1 | refine below_set ?_ GE588.out) | exact HB.out))); (case side2 => exact HC0.out); rintro e w15 ⟨v590, rfl, ho0, hb⟩; refine ⟨_, rfl, ?_⟩; have n0_ := Aside0.mk (Kd.R_lower (Kd.R_newB ho0 (g := gb588) (o := .cells #[.int .i64 t584, .int .i64 t585, .int .i64 t586, .int .i64 t587] 26 (0, 0)) (by (with_reducible repeat (first | refine blk_drewN ?_ _ | refine blk_drew ?_ | refine blk_alloc ?_ _)); refine blk_put (cs := #[.int .i64 t584, .int .i64 t585, .int .i64 t586, .int .i64 0]) ?_ 3 _ rfl; (with_reducible repeat (first | refine blk_drewN ?_ _ | refine blk_drew ?_ | refine blk_alloc ?_ _)); refine blk_put (cs := #[.int .i64 t584, .int .i64 t585, .int .i64 0, .int .i64 0]) ?_ 2 _ rfl; (with_reducible repeat (first | refine blk_drewN ?_ _ | refine blk_drew ?_ | refine blk_alloc ?_ _)); refine blk_put (cs := #[.int .i64 t584, .int .i64 0, .int .i64 0, .int .i64 0]) ?_ 1 _ rfl; (with_reducible repeat (first | refine blk_drewN ?_ _ | refine blk_drew ?_ | refine blk_alloc ?_ _)); refine blk_put (cs := #[.int .i64 0, .int .i64 0, .int .i64 0, .int .i64 0]) ?_ 0 _ rfl; (with_reducible repeat (first | refine blk_drewN ?_ _ | refine blk_drew ?_ | refine blk_alloc ?_ _)); exact BK588.out)) (below_size (by repeat (first | (with_reducible first | exact HB.out | apply below_alloc | apply pw_below_drewN | apply below_drew1 | refine below_set ?_ GE588.out) | exact HB.out)))); have n1_ := Aside0.mk (blk_below (g := gb588) (o := .cells #[.int .i64 t584, .int .i64 t585, .int .i64 t586, .int .i64 t587] 26 (0, 0)) (by (with_reducible repeat (first | refine blk_drewN ?_ _ | refine blk_drew ?_ | refine blk_alloc ?_ _)); refine blk_put (cs := #[.int .i64 t584, .int .i64 t585, .int .i64 t586, .int .i64 0]) ?_ 3 _ rfl; (with_reducible repeat (first | refine blk_drewN ?_ _ | refine blk_drew ?_ | refine blk_alloc ?_ _)); refine blk_put (cs := #[.int .i64 t584, .int .i64 t585, .int .i64 0, .int .i64 0]) ?_ 2 _ rfl; (with_reducible repeat (first | refine blk_drewN ?_ _ | refine blk_drew ?_ | refine blk_alloc ?_ _)); refine blk_put (cs := #[.int .i64 t584, .int .i64 0, .int .i64 0, .int .i64 0]) ?_ 1 _ rfl; (with_reducible repeat (first | refine blk_drewN ?_ _ | refine blk_drew ?_ | refine blk_alloc ?_ _)); refine blk_put (cs := #[.int .i64 0, .int .i64 0, .int .i64 0, .int .i64 0]) ?_ 0 _ rfl; (with_reducible repeat (first | refine blk_drewN ?_ _ | refine blk_drew ?_ | refine blk_alloc ?_ _)); exact BK588.out) hb); have n2_ := Aside0.mk (below_step (by repeat (first | (with_reducible first | exact HB.out | apply below_alloc | apply pw_below_drewN | apply below_drew1 | refine below_set ?_ GE588.out) | exact HB.out)) hb); clear BK588; clear HB; have HO591 := n0_; have BK588 := n1_; have HB := n2_; clear n0_ n1_ n2_; (try clear hb); (try clear hb2); (try clear hk); (try clear hi); (try clear ho0); obtain ⟨Ao16, co16, eo16⟩ := Kd.R_slice HO591.out; subst eo16; have hcz17_0 : w15.cell? ⟨gb588, 0, none⟩ = some (.int .i64 t584) := (blk_cell BK588.out 0).trans rfl; have hcz17_1 : w15.cell? ⟨gb588, 1, none⟩ = some (.int .i64 t585) := (blk_cell BK588.out 1).trans rfl; have hcz17_2 : w15.cell? ⟨gb588, 2, none⟩ = some (.int .i64 t586) := (blk_cell BK588.out 2).trans rfl; have hcz17_3 : w15.cell? ⟨gb588, 3, none⟩ = some (.int .i64 t587) := (blk_cell BK588.out 3).trans rfl; have hfz17_0 := blk_frozen BK588.out 0; have hfz17_1 := blk_frozen BK588.out 1; have hfz17_2 := blk_frozen BK588.out 2; have hfz17_3 := blk_frozen BK588.out 3))
        go_ret
        exact ⟨by first | rfl | (simp [errW_none, errW_some] <;> rfl) | (simp [*, errW_none, errW_some] <;> rfl), by repeat (first | (with_reducible first | exact HB.out | apply below_alloc | apply pw_below_drewN | apply below_drew1 | refine below_set ?_ GE588.out) | exact HB.out)⟩
      · rw [if_neg c10] at H
        have c10b0 : ((t589.length : Int) == 0) = false := beq_eq_false_iff_ne.mpr c10
        have c10b1 : ((t589.length : Int) != 0) = true := bne_iff_ne.mpr c10
        have c10b2 : ¬ (t589 = []) := fun h_ => c10 (by rw [h_]; rfl)
        have HC18 := Aside0.mk H
        clear H
        go_enter Try.func8, Try.ntmps8
        go_upto_region 10 with (first | ((with_reducible refine gate_callee (f := 10) rfl ?_); refine goesL_ (some 16) rfl rfl Try.func10 (by kernel_rfl) rfl #[] rfl (by (try simp only [List.map_toArray, List.map_cons, List.map_nil]); first | done | rfl | (simp only [List.length_drop, List.length_take]; rfl)) ?_; (with_reducible refine (miradorlaw15_works.calls k  true _ A4.out).mono ?_); rintro e w19 ⟨rfl, hb⟩; refine ⟨_, rfl, ?_⟩; have n0_ := Aside0.mk (below_step (by repeat (first | (with_reducible first | exact HB.out | apply below_alloc | apply pw_below_drewN | apply below_drew1) | exact HB.out)) hb); clear HB; have HB := n0_; clear n0_; (try clear hb); (try clear hb2); (try clear hk); (try clear hi)) | ((with_reducible refine gate_callee (f := 20) rfl ?_); refine goesL_ (some 24) rfl rfl Try.func20 (by kernel_rfl) rfl #[.slice A0 l0.length c0] rfl (by (try simp only [List.map_toArray, List.map_cons, List.map_nil]); first | done | rfl | (simp only [List.length_drop, List.length_take]; rfl)) ?_; (with_reducible refine (region_Bounds.calls k _ _ l0 t584 t585 t586 t587 _ ?side1 ?side2 A8.out).mono ?_); (case side1 => repeat (first | exact (Kd.C_below HR0.out HB.out) | (with_reducible refine Kd.C_alloc ?_ _) | (with_reducible refine Kd.C_drewN ?_ _) | (with_reducible refine Kd.C_drew ?_))); (case side2 => exact HC0.out); rintro e w20 ⟨rfl, hb⟩; refine ⟨_, rfl, ?_⟩; have n0_ := Aside0.mk (below_step (by repeat (first | (with_reducible first | exact HB.out | apply below_alloc | apply pw_below_drewN | apply below_drew1) | exact HB.out)) hb); clear HB; have HB := n0_; clear n0_; (try clear hb); (try clear hb2); (try clear hk); (try clear hi)) | ((with_reducible refine gate_dst (N := 8) rfl ?_); (try (refine gate_guard (by rfl) ?_; dsimp only)); refine box_event ?hg (N := 8) ?hd (cs := #[.int .i64 0, .int .i64 0, .int .i64 0, .int .i64 0]) (t := 26) ?hr ?_; (case hd => rfl); (case hg => rfl); (case hr => first | (go_simp; done) | (go_simp; rfl)); intro gb588 hg w21 hbox hb; have n0_ := Aside0.mk (below_step (by repeat (first | (with_reducible first | exact HB.out | apply below_alloc | apply pw_below_drewN | apply below_drew1) | exact HB.out)) hb); have n1_ := Aside0.mk (hbox); have n2_ := Aside0.mk ((by rw [hg]; exact (below_size (by repeat (first | (with_reducible first | exact HB.out | apply below_alloc | apply pw_below_drewN | apply below_drew1) | exact HB.out))) : w.heap.size ≤ gb588)); have n3_ := Aside0.mk ((by rw [hg]; exact (below_size (by repeat (first | (with_reducible first | exact HB.out | apply below_alloc | apply pw_below_drewN | apply below_drew1) | exact HB.out))) : w.heap.size ≤ gb588)); clear HB; have HB := n0_; have BK588 := n1_; have GW588 := n2_; have GE588 := n3_; clear n0_ n1_ n2_ n3_; clear hb hbox hg; have hcz22_0 : w21.cell? ⟨gb588, 0, none⟩ = some (.int .i64 0) := (blk_cell BK588.out 0).trans rfl; have hcz22_1 : w21.cell? ⟨gb588, 1, none⟩ = some (.int .i64 0) := (blk_cell BK588.out 1).trans rfl; have hcz22_2 : w21.cell? ⟨gb588, 2, none⟩ = some (.int .i64 0) := (blk_cell BK588.out 2).trans rfl; have hcz22_3 : w21.cell? ⟨gb588, 3, none⟩ = some (.int .i64 0) := (blk_cell BK588.out 3).trans rfl; have hfz22_0 := blk_frozen BK588.out 0; have hfz22_1 := blk_frozen BK588.out 1; have hfz22_2 := blk_frozen BK588.out 2; have hfz22_3 := blk_frozen BK588.out 3) | ((with_reducible refine gate_callee (f := 11) rfl ?_); refine goesL_ (some 26) rfl rfl Try.func11 (by kernel_rfl) rfl #[.slice A0 l0.length c0] rfl (by (try simp only [List.map_toArray, List.map_cons, List.map_nil]); first | done | rfl | (simp only [List.length_drop, List.length_take]; rfl)) ?_; (with_reducible refine (region_Make.calls _ _ l0 t589 _ ?side1 ?side2 A9.out).mono ?_); (case side1 => exact Kd.C_below HR0.out (by repeat (first | (with_reducible first | exact HB.out | apply below_alloc | apply pw_below_drewN | apply below_drew1 | refine below_set ?_ GE588.out) | exact HB.out))); (case side2 => exact HC0.out); rintro e w23 ⟨v590, rfl, ho0, hb⟩; refine ⟨_, rfl, ?_⟩; have n0_ := Aside0.mk (Kd.R_lower (Kd.R_newB ho0 (g := gb588) (o := .cells #[.int .i64 t584, .int .i64 t585, .int .i64 t586, .int .i64 t587] 26 (0, 0)) (by (with_reducible repeat (first | refine blk_drewN ?_ _ | refine blk_drew ?_ | refine blk_alloc ?_ _)); refine blk_put (cs := #[.int .i64 t584, .int .i64 t585, .int .i64 t586, .int .i64 0]) ?_ 3 _ rfl; (with_reducible repeat (first | refine blk_drewN ?_ _ | refine blk_drew ?_ | refine blk_alloc ?_ _)); refine blk_put (cs := #[.int .i64 t584, .int .i64 t585, .int .i64 0, .int .i64 0]) ?_ 2 _ rfl; (with_reducible repeat (first | refine blk_drewN ?_ _ | refine blk_drew ?_ | refine blk_alloc ?_ _)); refine blk_put (cs := #[.int .i64 t584, .int .i64 0, .int .i64 0, .int .i64 0]) ?_ 1 _ rfl; (with_reducible repeat (first | refine blk_drewN ?_ _ | refine blk_drew ?_ | refine blk_alloc ?_ _)); refine blk_put (cs := #[.int .i64 0, .int .i64 0, .int .i64 0, .int .i64 0]) ?_ 0 _ rfl; (with_reducible repeat (first | refine blk_drewN ?_ _ | refine blk_drew ?_ | refine blk_alloc ?_ _)); exact BK588.out)) (below_size (by repeat (first | (with_reducible first | exact HB.out | apply below_alloc | apply pw_below_drewN | apply below_drew1 | refine below_set ?_ GE588.out) | exact HB.out)))); have n1_ := Aside0.mk (blk_below (g := gb588) (o := .cells #[.int .i64 t584, .int .i64 t585, .int .i64 t586, .int .i64 t587] 26 (0, 0)) (by (with_reducible repeat (first | refine blk_drewN ?_ _ | refine blk_drew ?_ | refine blk_alloc ?_ _)); refine blk_put (cs := #[.int .i64 t584, .int .i64 t585, .int .i64 t586, .int .i64 0]) ?_ 3 _ rfl; (with_reducible repeat (first | refine blk_drewN ?_ _ | refine blk_drew ?_ | refine blk_alloc ?_ _)); refine blk_put (cs := #[.int .i64 t584, .int .i64 t585, .int .i64 0, .int .i64 0]) ?_ 2 _ rfl; (with_reducible repeat (first | refine blk_drewN ?_ _ | refine blk_drew ?_ | refine blk_alloc ?_ _)); refine blk_put (cs := #[.int .i64 t584, .int .i64 0, .int .i64 0, .int .i64 0]) ?_ 1 _ rfl; (with_reducible repeat (first | refine blk_drewN ?_ _ | refine blk_drew ?_ | refine blk_alloc ?_ _)); refine blk_put (cs := #[.int .i64 0, .int .i64 0, .int .i64 0, .int .i64 0]) ?_ 0 _ rfl; (with_reducible repeat (first | refine blk_drewN ?_ _ | refine blk_drew ?_ | refine blk_alloc ?_ _)); exact BK588.out) hb); have n2_ := Aside0.mk (below_step (by repeat (first | (with_reducible first | exact HB.out | apply below_alloc | apply pw_below_drewN | apply below_drew1 | refine below_set ?_ GE588.out) | exact HB.out)) hb); clear BK588; clear HB; have HO591 := n0_; have BK588 := n1_; have HB := n2_; clear n0_ n1_ n2_; (try clear hb); (try clear hb2); (try clear hk); (try clear hi); (try clear ho0); obtain ⟨Ao24, co24, eo24⟩ := Kd.R_slice HO591.out; subst eo24))
        (try simp only [Act.put, List.setIfInBounds_toArray, List.set_cons_zero, List.set_cons_succ])
        go_cut [10] (fun v10 wc => ∃ (kq : Nat) (x10_17 : Bool), v10 = .bool x10_17 ∧ Aside0 (miradorlaw15_RegionBounds.j0 kq l0 a1 a2 true x10_17 t584 t585 t586 t587 = some r) ∧ Aside0 (kq ≤ k) ∧ Aside0 (wc.heap[gb588]? = some (.cells #[.int .i64 t584, .int .i64 t585, .int .i64 t586, .int .i64 t587] 26 (0, 0))) ∧ Aside0 (Below w.heap.size w wc))
        case first =>
          have H := HC18.out
          clear HC18
          by_cases c25 : a1 ≥ t584
          · rw [if_pos c25] at H
            have c25b0 : decide (t584 ≤ a1) = true := decide_eq_true c25
            clear c25
            (first | rw [c25b0] | (simp only [i64_w, i32_w]; rw [c25b0]) | skip)
            by_cases c26 : a2 ≥ t585
            · rw [if_pos c26] at H
              have c26b0 : decide (t585 ≤ a2) = true := decide_eq_true c26
              clear c26
              by_cases c27 : a1 < (wrap64 (t584 + t586))
              · rw [if_pos c27] at H
                have c27b0 : decide (a1 < (wrap64 (t584 + t586))) = true := decide_eq_true c27
                clear c27
                have H' := Aside0.mk H
                clear H
                have hcz28_0 : w23.cell? ⟨gb588, 0, none⟩ = some (.int .i64 t584) := (blk_cell BK588.out 0).trans rfl
                have hcz28_1 : w23.cell? ⟨gb588, 1, none⟩ = some (.int .i64 t585) := (blk_cell BK588.out 1).trans rfl
                have hcz28_2 : w23.cell? ⟨gb588, 2, none⟩ = some (.int .i64 t586) := (blk_cell BK588.out 2).trans rfl
                have hcz28_3 : w23.cell? ⟨gb588, 3, none⟩ = some (.int .i64 t587) := (blk_cell BK588.out 3).trans rfl
                have hfz28_0 := blk_frozen BK588.out 0
                have hfz28_1 := blk_frozen BK588.out 1
                have hfz28_2 := blk_frozen BK588.out 2
                have hfz28_3 := blk_frozen BK588.out 3
                go_wp2
                go_meet
                case rel => exact ⟨_, (decide (a2 < (wrap64 (t585 + t587)))), (by first | rfl | (simp; done) | (simp [*]; done)), H', ⟨by first | omega | exact Nat.le_refl _⟩, ⟨by (with_reducible repeat (first | refine blk_drewN ?_ _ | refine blk_drew ?_ | refine blk_alloc ?_ _)); exact BK588.out⟩, ⟨by repeat (first | (with_reducible first | exact HB.out | apply below_alloc | apply pw_below_drewN | apply below_drew1 | refine below_set ?_ GE588.out) | exact HB.out)⟩⟩
              · rw [if_neg c27] at H
                have c27b0 : decide (a1 < (wrap64 (t584 + t586))) = false := decide_eq_false c27
                clear c27
                have H' := Aside0.mk H
                clear H
                have hcz29_0 : w23.cell? ⟨gb588, 0, none⟩ = some (.int .i64 t584) := (blk_cell BK588.out 0).trans rfl
                have hcz29_1 : w23.cell? ⟨gb588, 1, none⟩ = some (.int .i64 t585) := (blk_cell BK588.out 1).trans rfl
                have hcz29_2 : w23.cell? ⟨gb588, 2, none⟩ = some (.int .i64 t586) := (blk_cell BK588.out 2).trans rfl
                have hcz29_3 : w23.cell? ⟨gb588, 3, none⟩ = some (.int .i64 t587) := (blk_cell BK588.out 3).trans rfl
                have hfz29_0 := blk_frozen BK588.out 0
                have hfz29_1 := blk_frozen BK588.out 1
                have hfz29_2 := blk_frozen BK588.out 2
                have hfz29_3 := blk_frozen BK588.out 3
                go_wp2
                go_meet
                case rel => exact ⟨_, (false), (by first | rfl | (simp; done) | (simp [*]; done)), H', ⟨by first | omega | exact Nat.le_refl _⟩, ⟨by (with_reducible repeat (first | refine blk_drewN ?_ _ | refine blk_drew ?_ | refine blk_alloc ?_ _)); exact BK588.out⟩, ⟨by repeat (first | (with_reducible first | exact HB.out | apply below_alloc | apply pw_below_drewN | apply below_drew1 | refine below_set ?_ GE588.out) | exact HB.out)⟩⟩
            · rw [if_neg c26] at H
              have c26b0 : decide (t585 ≤ a2) = false := decide_eq_false c26
              clear c26
              have H' := Aside0.mk H
              clear H
              have hcz30_0 : w23.cell? ⟨gb588, 0, none⟩ = some (.int .i64 t584) := (blk_cell BK588.out 0).trans rfl
              have hcz30_1 : w23.cell? ⟨gb588, 1, none⟩ = some (.int .i64 t585) := (blk_cell BK588.out 1).trans rfl
              have hcz30_2 : w23.cell? ⟨gb588, 2, none⟩ = some (.int .i64 t586) := (blk_cell BK588.out 2).trans rfl
              have hcz30_3 : w23.cell? ⟨gb588, 3, none⟩ = some (.int .i64 t587) := (blk_cell BK588.out 3).trans rfl
              have hfz30_0 := blk_frozen BK588.out 0
              have hfz30_1 := blk_frozen BK588.out 1
              have hfz30_2 := blk_frozen BK588.out 2
              have hfz30_3 := blk_frozen BK588.out 3
              go_wp2
              go_meet
              case rel => exact ⟨_, (false), (by first | rfl | (simp; done) | (simp [*]; done)), H', ⟨by first | omega | exact Nat.le_refl _⟩, ⟨by (with_reducible repeat (first | refine blk_drewN ?_ _ | refine blk_drew ?_ | refine blk_alloc ?_ _)); exact BK588.out⟩, ⟨by repeat (first | (with_reducible first | exact HB.out | apply below_alloc | apply pw_below_drewN | apply below_drew1 | refine below_set ?_ GE588.out) | exact HB.out)⟩⟩
          · rw [if_neg c25] at H
            have c25b0 : decide (t584 ≤ a1) = false := decide_eq_false c25
            clear c25
            (first | rw [c25b0] | (simp only [i64_w, i32_w]; rw [c25b0]) | skip)
            have H' := Aside0.mk H
            clear H
            have hcz31_0 : w23.cell? ⟨gb588, 0, none⟩ = some (.int .i64 t584) := (blk_cell BK588.out 0).trans rfl
            have hcz31_1 : w23.cell? ⟨gb588, 1, none⟩ = some (.int .i64 t585) := (blk_cell BK588.out 1).trans rfl
            have hcz31_2 : w23.cell? ⟨gb588, 2, none⟩ = some (.int .i64 t586) := (blk_cell BK588.out 2).trans rfl
            have hcz31_3 : w23.cell? ⟨gb588, 3, none⟩ = some (.int .i64 t587) := (blk_cell BK588.out 3).trans rfl
            have hfz31_0 := blk_frozen BK588.out 0
            have hfz31_1 := blk_frozen BK588.out 1
            have hfz31_2 := blk_frozen BK588.out 2
            have hfz31_3 := blk_frozen BK588.out 3
            go_wp2
            go_meet
            case rel => exact ⟨_, (false), (by first | rfl | (simp; done) | (simp [*]; done)), H', ⟨by first | omega | exact Nat.le_refl _⟩, ⟨by (with_reducible repeat (first | refine blk_drewN ?_ _ | refine blk_drew ?_ | refine blk_alloc ?_ _)); exact BK588.out⟩, ⟨by repeat (first | (with_reducible first | exact HB.out | apply below_alloc | apply pw_below_drewN | apply below_drew1 | refine below_set ?_ GE588.out) | exact HB.out)⟩⟩
        case rest =>
          clear HC18
          try clear c1
          try clear c2
          try clear p2
          try clear c5
          try clear c6
          try clear c6b0
          try clear c6b1
          try clear p6
          try clear c8
          try clear c10
          try clear c10b0
          try clear c10b1
          try clear c10b2
          try clear c11
          try clear c20
          try clear c25
          try clear c25b0
          try clear c26
          try clear c26b0
          try clear c27
          try clear c27b0
          try clear hcz14_0
          try clear hcz14_1
          try clear hcz14_2
          try clear hcz14_3
          try clear hcz17_0
          try clear hcz17_1
          try clear hcz17_2
          try clear hcz17_3
          try clear hcz22_0
          try clear hcz22_1
          try clear hcz22_2
          try clear hcz22_3
          try clear hcz28_0
          try clear hcz28_1
          try clear hcz28_2
          try clear hcz28_3
          try clear hcz29_0
          try clear hcz29_1
          try clear hcz29_2
          try clear hcz29_3
          try clear hcz30_0
          try clear hcz30_1
          try clear hcz30_2
          try clear hcz30_3
          try clear hcz31_0
          try clear hcz31_1
          try clear hcz31_2
          try clear hcz31_3
          try clear hfz14_0
          try clear hfz14_1
          try clear hfz14_2
          try clear hfz14_3
          try clear hfz17_0
          try clear hfz17_1
          try clear hfz17_2
          try clear hfz17_3
          try clear hfz22_0
          try clear hfz22_1
          try clear hfz22_2
          try clear hfz22_3
          try clear hfz28_0
          try clear hfz28_1
          try clear hfz28_2
          try clear hfz28_3
          try clear hfz29_0
          try clear hfz29_1
          try clear hfz29_2
          try clear hfz29_3
          try clear hfz30_0
          try clear hfz30_1
          try clear hfz30_2
          try clear hfz30_3
          try clear hfz31_0
          try clear hfz31_1
          try clear hfz31_2
          try clear hfz31_3
          obtain ⟨kq, x10_17, rfl, HA, HJ17, BK588, HB⟩ := hcut
          cases kq with
          | zero => exact absurd HA.out (by simp [miradorlaw15_RegionBounds.j0])
          | succ kj17 =>
            have H := HA.out
            clear HA
            simp only [miradorlaw15_RegionBounds.j0] at H
            have HC32 := Aside0.mk H
            clear H
            go_upto_region 11 with (fail)
            go_cut [71] (fun v71 wc => ∃ (kq : Nat) (x71_31 : Bool), v71 = .bool x71_31 ∧ Aside0 (miradorlaw15_RegionBounds.j1 kq l0 true x71_31 t584 t585 t586 t587 = some r) ∧ Aside0 (kq ≤ kj17) ∧ Aside0 (wc.heap[gb588]? = some (.cells #[.int .i64 t584, .int .i64 t585, .int .i64 t586, .int .i64 t587] 26 (0, 0))) ∧ Aside0 (Below w.heap.size w wc))
            case first =>
              have H := HC32.out
              clear HC32
              replace H := Option.bind_eq_some_iff.mp H
              obtain ⟨t592, A330, H⟩ := H
              replace H : (if t592 = true then (miradorlaw15_RegionBounds.j1 kj17 l0 true (!x10_17) t584 t585 t586 t587) else (miradorlaw15_RegionBounds.j1 kj17 l0 true false t584 t585 t586 t587)) = some r := H
              have A33 := Aside0.mk A330
              clear A330
              by_cases c34 : t592 = true
              · subst c34
                have H1 : (miradorlaw15_RegionBounds.j1 kj17 l0 true (!x10_17) t584 t585 t586 t587) = some r := by rw [if_pos rfl] at H; exact H
                clear H
                have H := H1
                clear H1
                have H' := Aside0.mk H
                clear H
                go_wp2_with (first | ((with_reducible refine gate_callee (f := 18) rfl ?_); refine goesL_ (some 67) rfl rfl Try.func18 (by kernel_rfl) rfl #[.slice A0 l0.length c0, .int .i64 a1, .int .i64 a2] rfl (by (try simp only [List.map_toArray, List.map_cons, List.map_nil]); first | done | rfl | (simp only [List.length_drop, List.length_take]; rfl)) ?_; (with_reducible refine (region_Has.calls kj17 _ _ l0 a1 a2 true _ ?side1 ?side2 A33.out).mono ?_); (case side1 => repeat (first | exact (Kd.C_below HR0.out HB.out) | (with_reducible refine Kd.C_alloc ?_ _) | (with_reducible refine Kd.C_drewN ?_ _) | (with_reducible refine Kd.C_drew ?_))); (case side2 => exact HC0.out); rintro e w35 ⟨rfl, hb⟩; refine ⟨_, rfl, ?_⟩; have n0_ := Aside0.mk (blk_below (g := gb588) (o := .cells #[.int .i64 t584, .int .i64 t585, .int .i64 t586, .int .i64 t587] 26 (0, 0)) (by (with_reducible repeat (first | refine blk_drewN ?_ _ | refine blk_drew ?_ | refine blk_alloc ?_ _)); exact BK588.out) hb); have n1_ := Aside0.mk (below_step (by repeat (first | (with_reducible first | exact HB.out | apply below_alloc | apply pw_below_drewN | apply below_drew1 | refine below_set ?_ GE588.out) | exact HB.out)) hb); clear BK588; clear HB; have BK588 := n0_; have HB := n1_; clear n0_ n1_; (try clear hb); (try clear hb2); (try clear hk); (try clear hi)))
                go_meet
                case rel => exact ⟨_, (!x10_17), (by first | rfl | (simp; done) | (simp [*]; done)), H', ⟨by have := HJ17.out; first | omega | exact Nat.le_refl _⟩, ⟨by (with_reducible repeat (first | refine blk_drewN ?_ _ | refine blk_drew ?_ | refine blk_alloc ?_ _)); exact BK588.out⟩, ⟨by repeat (first | (with_reducible first | exact HB.out | apply below_alloc | apply pw_below_drewN | apply below_drew1 | refine below_set ?_ GE588.out) | exact HB.out)⟩⟩
              · replace c34 := Bool.eq_false_iff.mpr c34
                subst c34
                have H1 : (miradorlaw15_RegionBounds.j1 kj17 l0 true false t584 t585 t586 t587) = some r := by rw [if_neg (show ¬ (false = true) by decide)] at H; exact H
                clear H
                have H := H1
                clear H1
                have H' := Aside0.mk H
                clear H
                go_wp2_with (first | ((with_reducible refine gate_callee (f := 18) rfl ?_); refine goesL_ (some 67) rfl rfl Try.func18 (by kernel_rfl) rfl #[.slice A0 l0.length c0, .int .i64 a1, .int .i64 a2] rfl (by (try simp only [List.map_toArray, List.map_cons, List.map_nil]); first | done | rfl | (simp only [List.length_drop, List.length_take]; rfl)) ?_; (with_reducible refine (region_Has.calls kj17 _ _ l0 a1 a2 false _ ?side1 ?side2 A33.out).mono ?_); (case side1 => repeat (first | exact (Kd.C_below HR0.out HB.out) | (with_reducible refine Kd.C_alloc ?_ _) | (with_reducible refine Kd.C_drewN ?_ _) | (with_reducible refine Kd.C_drew ?_))); (case side2 => exact HC0.out); rintro e w36 ⟨rfl, hb⟩; refine ⟨_, rfl, ?_⟩; have n0_ := Aside0.mk (blk_below (g := gb588) (o := .cells #[.int .i64 t584, .int .i64 t585, .int .i64 t586, .int .i64 t587] 26 (0, 0)) (by (with_reducible repeat (first | refine blk_drewN ?_ _ | refine blk_drew ?_ | refine blk_alloc ?_ _)); exact BK588.out) hb); have n1_ := Aside0.mk (below_step (by repeat (first | (with_reducible first | exact HB.out | apply below_alloc | apply pw_below_drewN | apply below_drew1 | refine below_set ?_ GE588.out) | exact HB.out)) hb); clear BK588; clear HB; have BK588 := n0_; have HB := n1_; clear n0_ n1_; (try clear hb); (try clear hb2); (try clear hk); (try clear hi)))
                go_meet
                case rel => exact ⟨_, (false), (by first | rfl | (simp; done) | (simp [*]; done)), H', ⟨by have := HJ17.out; first | omega | exact Nat.le_refl _⟩, ⟨by (with_reducible repeat (first | refine blk_drewN ?_ _ | refine blk_drew ?_ | refine blk_alloc ?_ _)); exact BK588.out⟩, ⟨by repeat (first | (with_reducible first | exact HB.out | apply below_alloc | apply pw_below_drewN | apply below_drew1 | refine below_set ?_ GE588.out) | exact HB.out)⟩⟩
            case rest =>
              clear HC32
              try clear c1
              try clear c2
              try clear p2
              try clear c3
              try clear c5
              try clear c6
              try clear c6b0
              try clear c6b1
              try clear p6
              try clear c8
              try clear c10
              try clear c10b0
              try clear c10b1
              try clear c10b2
              try clear c11
              try clear c18
              try clear c20
              try clear c25
              try clear c25b0
              try clear c26
              try clear c26b0
              try clear c27
              try clear c27b0
              try clear c34
              try clear hcz14_0
              try clear hcz14_1
              try clear hcz14_2
              try clear hcz14_3
              try clear hcz17_0
              try clear hcz17_1
              try clear hcz17_2
              try clear hcz17_3
              try clear hcz22_0
              try clear hcz22_1
              try clear hcz22_2
              try clear hcz22_3
              try clear hcz28_0
              try clear hcz28_1
              try clear hcz28_2
              try clear hcz28_3
              try clear hcz29_0
              try clear hcz29_1
              try clear hcz29_2
              try clear hcz29_3
              try clear hcz30_0
              try clear hcz30_1
              try clear hcz30_2
              try clear hcz30_3
              try clear hcz31_0
              try clear hcz31_1
              try clear hcz31_2
              try clear hcz31_3
              try clear hfz14_0
              try clear hfz14_1
              try clear hfz14_2
              try clear hfz14_3
              try clear hfz17_0
              try clear hfz17_1
              try clear hfz17_2
              try clear hfz17_3
              try clear hfz22_0
              try clear hfz22_1
              try clear hfz22_2
              try clear hfz22_3
              try clear hfz28_0
              try clear hfz28_1
              try clear hfz28_2
              try clear hfz28_3
              try clear hfz29_0
              try clear hfz29_1
              try clear hfz29_2
              try clear hfz29_3
              try clear hfz30_0
              try clear hfz30_1
              try clear hfz30_2
              try clear hfz30_3
              try clear hfz31_0
              try clear hfz31_1
              try clear hfz31_2
              try clear hfz31_3
              try clear p2
              try clear p6
              obtain ⟨kq, x71_31, rfl, HA, HJ31, BK588, HB⟩ := hcut
              cases kq with
              | zero => exact absurd HA.out (by simp [miradorlaw15_RegionBounds.j1])
              | succ kj31 =>
                have H := HA.out
                clear HA
                simp only [miradorlaw15_RegionBounds.j1] at H
                by_cases c37 : x71_31 = true
                · subst c37
                  have H1 : (some false) = some r := by rw [if_pos rfl] at H; exact H
                  clear H
                  have H := H1
                  clear H1
                  rw [HRT.out] at H
                  exact absurd (Option.some.inj H) (by decide)
                · replace c37 := Bool.eq_false_iff.mpr c37
                  subst c37
                  have H1 : ((region_Minus.f l0 (([(⟨t584, t585, t586, t587⟩ : S26)] : List (S26)))).bind fun t608 => (if true = true then (if (t608.length : Int) = 0 then ((region_Both.f l0 (([(⟨t584, t585, 1, t587⟩ : S26)] : List (S26)))).bind fun t611 => (if (t611.length : Int) > 0 then ((region_Both.f l0 (([(⟨wrap64 ((wrap64 (t584 + t586)) - 1), t585, 1, t587⟩ : S26)] : List (S26)))).bind fun t614 => (if (t614.length : Int) > 0 then ((region_Both.f l0 (([(⟨t584, t585, t586, 1⟩ : S26)] : List (S26)))).bind fun t617 => (if (t617.length : Int) > 0 then ((region_Both.f l0 (([(⟨t584, wrap64 ((wrap64 (t585 + t587)) - 1), t586, 1⟩ : S26)] : List (S26)))).bind fun t620 => (if (t620.length : Int) > 0 then ((region_Area.f kj31 l0).bind fun t623 => (some (decide (t623 ≤ (wrap64 (t586 * t587)))))) else (some false))) else (some false))) else (some false))) else (some false))) else (some false)) else (some false))) = some r := by rw [if_neg (show ¬ (false = true) by decide)] at H; exact H
                  clear H
                  have H := H1
                  clear H1
                  obtain ⟨y593, hy593⟩ : ∃ y_ : List (S26), y_ = (([(⟨t584, t585, 1, t587⟩ : S26)] : List (S26))) := ⟨_, rfl⟩
                  replace H : ((region_Minus.f l0 (([(⟨t584, t585, t586, t587⟩ : S26)] : List (S26)))).bind fun t608 => (if true = true then (if (t608.length : Int) = 0 then ((region_Both.f l0 y593).bind fun t611 => (if (t611.length : Int) > 0 then ((region_Both.f l0 (([(⟨wrap64 ((wrap64 (t584 + t586)) - 1), t585, 1, t587⟩ : S26)] : List (S26)))).bind fun t614 => (if (t614.length : Int) > 0 then ((region_Both.f l0 (([(⟨t584, t585, t586, 1⟩ : S26)] : List (S26)))).bind fun t617 => (if (t617.length : Int) > 0 then ((region_Both.f l0 (([(⟨t584, wrap64 ((wrap64 (t585 + t587)) - 1), t586, 1⟩ : S26)] : List (S26)))).bind fun t620 => (if (t620.length : Int) > 0 then ((region_Area.f kj31 l0).bind fun t623 => (some (decide (t623 ≤ (wrap64 (t586 * t587)))))) else (some false))) else (some false))) else (some false))) else (some false))) else (some false)) else (some false))) = some r := by first | (rw [hy593]; with_reducible exact H) | (have H2_ := (Option.bind_some _ _).symm.trans H; rw [hy593]; with_reducible exact H2_) | (have H2_ := (Option.bind_some _ _).symm.trans H; with_reducible exact H2_) | with_reducible exact H | (rw [hy593]; exact H) | exact H
                  have Ny593 := Aside0.mk hy593
                  clear hy593
                  obtain ⟨y596, hy596⟩ : ∃ y_ : List (S26), y_ = (([(⟨wrap64 ((wrap64 (t584 + t586)) - 1), t585, 1, t587⟩ : S26)] : List (S26))) := ⟨_, rfl⟩
                  replace H : ((region_Minus.f l0 (([(⟨t584, t585, t586, t587⟩ : S26)] : List (S26)))).bind fun t608 => (if true = true then (if (t608.length : Int) = 0 then ((region_Both.f l0 y593).bind fun t611 => (if (t611.length : Int) > 0 then ((region_Both.f l0 y596).bind fun t614 => (if (t614.length : Int) > 0 then ((region_Both.f l0 (([(⟨t584, t585, t586, 1⟩ : S26)] : List (S26)))).bind fun t617 => (if (t617.length : Int) > 0 then ((region_Both.f l0 (([(⟨t584, wrap64 ((wrap64 (t585 + t587)) - 1), t586, 1⟩ : S26)] : List (S26)))).bind fun t620 => (if (t620.length : Int) > 0 then ((region_Area.f kj31 l0).bind fun t623 => (some (decide (t623 ≤ (wrap64 (t586 * t587)))))) else (some false))) else (some false))) else (some false))) else (some false))) else (some false)) else (some false))) = some r := by first | (rw [hy596]; with_reducible exact H) | (have H2_ := (Option.bind_some _ _).symm.trans H; rw [hy596]; with_reducible exact H2_) | (have H2_ := (Option.bind_some _ _).symm.trans H; with_reducible exact H2_) | with_reducible exact H | (rw [hy596]; exact H) | exact H
                  have Ny596 := Aside0.mk hy596
                  clear hy596
                  obtain ⟨y599, hy599⟩ : ∃ y_ : List (S26), y_ = (([(⟨t584, t585, t586, 1⟩ : S26)] : List (S26))) := ⟨_, rfl⟩
                  replace H : ((region_Minus.f l0 (([(⟨t584, t585, t586, t587⟩ : S26)] : List (S26)))).bind fun t608 => (if true = true then (if (t608.length : Int) = 0 then ((region_Both.f l0 y593).bind fun t611 => (if (t611.length : Int) > 0 then ((region_Both.f l0 y596).bind fun t614 => (if (t614.length : Int) > 0 then ((region_Both.f l0 y599).bind fun t617 => (if (t617.length : Int) > 0 then ((region_Both.f l0 (([(⟨t584, wrap64 ((wrap64 (t585 + t587)) - 1), t586, 1⟩ : S26)] : List (S26)))).bind fun t620 => (if (t620.length : Int) > 0 then ((region_Area.f kj31 l0).bind fun t623 => (some (decide (t623 ≤ (wrap64 (t586 * t587)))))) else (some false))) else (some false))) else (some false))) else (some false))) else (some false)) else (some false))) = some r := by first | (rw [hy599]; with_reducible exact H) | (have H2_ := (Option.bind_some _ _).symm.trans H; rw [hy599]; with_reducible exact H2_) | (have H2_ := (Option.bind_some _ _).symm.trans H; with_reducible exact H2_) | with_reducible exact H | (rw [hy599]; exact H) | exact H
                  have Ny599 := Aside0.mk hy599
                  clear hy599
                  obtain ⟨y602, hy602⟩ : ∃ y_ : List (S26), y_ = (([(⟨t584, wrap64 ((wrap64 (t585 + t587)) - 1), t586, 1⟩ : S26)] : List (S26))) := ⟨_, rfl⟩
                  replace H : ((region_Minus.f l0 (([(⟨t584, t585, t586, t587⟩ : S26)] : List (S26)))).bind fun t608 => (if true = true then (if (t608.length : Int) = 0 then ((region_Both.f l0 y593).bind fun t611 => (if (t611.length : Int) > 0 then ((region_Both.f l0 y596).bind fun t614 => (if (t614.length : Int) > 0 then ((region_Both.f l0 y599).bind fun t617 => (if (t617.length : Int) > 0 then ((region_Both.f l0 y602).bind fun t620 => (if (t620.length : Int) > 0 then ((region_Area.f kj31 l0).bind fun t623 => (some (decide (t623 ≤ (wrap64 (t586 * t587)))))) else (some false))) else (some false))) else (some false))) else (some false))) else (some false)) else (some false))) = some r := by first | (rw [hy602]; with_reducible exact H) | (have H2_ := (Option.bind_some _ _).symm.trans H; rw [hy602]; with_reducible exact H2_) | (have H2_ := (Option.bind_some _ _).symm.trans H; with_reducible exact H2_) | with_reducible exact H | (rw [hy602]; exact H) | exact H
                  have Ny602 := Aside0.mk hy602
                  clear hy602
                  obtain ⟨y605, hy605⟩ : ∃ y_ : List (S26), y_ = (([(⟨t584, t585, t586, t587⟩ : S26)] : List (S26))) := ⟨_, rfl⟩
                  replace H : ((region_Minus.f l0 y605).bind fun t608 => (if true = true then (if (t608.length : Int) = 0 then ((region_Both.f l0 y593).bind fun t611 => (if (t611.length : Int) > 0 then ((region_Both.f l0 y596).bind fun t614 => (if (t614.length : Int) > 0 then ((region_Both.f l0 y599).bind fun t617 => (if (t617.length : Int) > 0 then ((region_Both.f l0 y602).bind fun t620 => (if (t620.length : Int) > 0 then ((region_Area.f kj31 l0).bind fun t623 => (some (decide (t623 ≤ (wrap64 (t586 * t587)))))) else (some false))) else (some false))) else (some false))) else (some false))) else (some false)) else (some false))) = some r := by first | (rw [hy605]; with_reducible exact H) | (have H2_ := (Option.bind_some _ _).symm.trans H; rw [hy605]; with_reducible exact H2_) | (have H2_ := (Option.bind_some _ _).symm.trans H; with_reducible exact H2_) | with_reducible exact H | (rw [hy605]; exact H) | exact H
                  have Ny605 := Aside0.mk hy605
                  clear hy605
                  replace H := Option.bind_eq_some_iff.mp H
                  obtain ⟨t608, A380, H⟩ := H
                  replace H : (if true = true then (if (t608.length : Int) = 0 then ((region_Both.f l0 y593).bind fun t611 => (if (t611.length : Int) > 0 then ((region_Both.f l0 y596).bind fun t614 => (if (t614.length : Int) > 0 then ((region_Both.f l0 y599).bind fun t617 => (if (t617.length : Int) > 0 then ((region_Both.f l0 y602).bind fun t620 => (if (t620.length : Int) > 0 then ((region_Area.f kj31 l0).bind fun t623 => (some (decide (t623 ≤ (wrap64 (t586 * t587)))))) else (some false))) else (some false))) else (some false))) else (some false))) else (some false)) else (some false)) = some r := H
                  have A38 := Aside0.mk A380
                  clear A380
                  have H1 : (if (t608.length : Int) = 0 then ((region_Both.f l0 y593).bind fun t611 => (if (t611.length : Int) > 0 then ((region_Both.f l0 y596).bind fun t614 => (if (t614.length : Int) > 0 then ((region_Both.f l0 y599).bind fun t617 => (if (t617.length : Int) > 0 then ((region_Both.f l0 y602).bind fun t620 => (if (t620.length : Int) > 0 then ((region_Area.f kj31 l0).bind fun t623 => (some (decide (t623 ≤ (wrap64 (t586 * t587)))))) else (some false))) else (some false))) else (some false))) else (some false))) else (some false)) = some r := by (first | rw [if_pos rfl] at H | rw [if_pos trivial] at H); exact H
                  clear H
                  have H := H1
                  clear H1
                  by_cases c39 : (t608.length : Int) = 0
                  · rw [if_pos c39] at H
                    have c39b0 : ((t608.length : Int) == 0) = true := beq_iff_eq.mpr c39
                    have c39b1 : ((t608.length : Int) != 0) = false := bne_eq_false_iff_eq.mpr c39
                    clear c39
                    replace H := Option.bind_eq_some_iff.mp H
                    obtain ⟨t611, A400, H⟩ := H
                    replace H : (if (t611.length : Int) > 0 then ((region_Both.f l0 y596).bind fun t614 => (if (t614.length : Int) > 0 then ((region_Both.f l0 y599).bind fun t617 => (if (t617.length : Int) > 0 then ((region_Both.f l0 y602).bind fun t620 => (if (t620.length : Int) > 0 then ((region_Area.f kj31 l0).bind fun t623 => (some (decide (t623 ≤ (wrap64 (t586 * t587)))))) else (some false))) else (some false))) else (some false))) else (some false)) = some r := H
                    have A40 := Aside0.mk A400
                    clear A400
                    by_cases c41 : (t611.length : Int) > 0
                    · rw [if_pos c41] at H
                      have c41b0 : decide (0 < (t611.length : Int)) = true := decide_eq_true c41
                      have c41b1 : decide (0 < t611.length) = true := decide_eq_true (by omega)
                      clear c41
                      replace H := Option.bind_eq_some_iff.mp H
                      obtain ⟨t614, A420, H⟩ := H
                      replace H : (if (t614.length : Int) > 0 then ((region_Both.f l0 y599).bind fun t617 => (if (t617.length : Int) > 0 then ((region_Both.f l0 y602).bind fun t620 => (if (t620.length : Int) > 0 then ((region_Area.f kj31 l0).bind fun t623 => (some (decide (t623 ≤ (wrap64 (t586 * t587)))))) else (some false))) else (some false))) else (some false)) = some r := H
                      have A42 := Aside0.mk A420
                      clear A420
                      by_cases c43 : (t614.length : Int) > 0
                      · rw [if_pos c43] at H
                        have c43b0 : decide (0 < (t614.length : Int)) = true := decide_eq_true c43
                        have c43b1 : decide (0 < t614.length) = true := decide_eq_true (by omega)
                        clear c43
                        replace H := Option.bind_eq_some_iff.mp H
                        obtain ⟨t617, A440, H⟩ := H
                        replace H : (if (t617.length : Int) > 0 then ((region_Both.f l0 y602).bind fun t620 => (if (t620.length : Int) > 0 then ((region_Area.f kj31 l0).bind fun t623 => (some (decide (t623 ≤ (wrap64 (t586 * t587)))))) else (some false))) else (some false)) = some r := H
                        have A44 := Aside0.mk A440
                        clear A440
                        by_cases c45 : (t617.length : Int) > 0
                        · rw [if_pos c45] at H
                          have c45b0 : decide (0 < (t617.length : Int)) = true := decide_eq_true c45
                          have c45b1 : decide (0 < t617.length) = true := decide_eq_true (by omega)
                          clear c45
                          replace H := Option.bind_eq_some_iff.mp H
                          obtain ⟨t620, A460, H⟩ := H
                          replace H : (if (t620.length : Int) > 0 then ((region_Area.f kj31 l0).bind fun t623 => (some (decide (t623 ≤ (wrap64 (t586 * t587)))))) else (some false)) = some r := H
                          have A46 := Aside0.mk A460
                          clear A460
                          by_cases c47 : (t620.length : Int) > 0
                          · rw [if_pos c47] at H
                            have c47b0 : decide (0 < (t620.length : Int)) = true := decide_eq_true c47
                            have c47b1 : decide (0 < t620.length) = true := decide_eq_true (by omega)
                            clear c47
                            replace H := Option.bind_eq_some_iff.mp H
                            obtain ⟨t623, A480, H⟩ := H
                            replace H : (some (decide (t623 ≤ (wrap64 (t586 * t587))))) = some r := H
                            have A48 := Aside0.mk A480
                            clear A480
                            obtain rfl := Option.some.inj H
                            have hcz49_0 : wc.cell? ⟨gb588, 0, none⟩ = some (.int .i64 t584) := (blk_cell BK588.out 0).trans rfl
                            have hcz49_1 : wc.cell? ⟨gb588, 1, none⟩ = some (.int .i64 t585) := (blk_cell BK588.out 1).trans rfl
                            have hcz49_2 : wc.cell? ⟨gb588, 2, none⟩ = some (.int .i64 t586) := (blk_cell BK588.out 2).trans rfl
                            have hcz49_3 : wc.cell? ⟨gb588, 3, none⟩ = some (.int .i64 t587) := (blk_cell BK588.out 3).trans rfl
                            have hfz49_0 := blk_frozen BK588.out 0
                            have hfz49_1 := blk_frozen BK588.out 1
                            have hfz49_2 := blk_frozen BK588.out 2
                            have hfz49_3 := blk_frozen BK588.out 3
                            try go_wp2_with (first | ((with_reducible refine gate_dst (N := 79) rfl ?_); (try (refine gate_guard (by rfl) ?_; dsimp only)); refine Kd.R_lit k26 _ 26 ?hg (N := 79) ?hd (xs := ([(⟨t584, t585, 1, t587⟩ : S26)] : List (S26))) (inner := [.int .i64 t584, .int .i64 t585, .int .i64 1, .int .i64 t587]) (ok := fun _ => True) (okp := fun _ => True) ?hr ?hp (fun _ hk => hk) trivial (Below.refl _ _) (Nat.le_refl _) (by simp) ?_; (case hd => rfl); (case hg => rfl); (case hr => first | (go_simp; done) | (go_simp; rfl)); (case hp => exact (Reps.c4 (show Kd.M k26 _ _ _ (⟨t584, t585, 1, t587⟩ : S26) [.int .i64 t584, .int .i64 t585, .int .i64 1, .int .i64 t587] from (k26_mkM _ _ _ (⟨t584, t585, 1, t587⟩ : S26) )) (Reps.none _ _))); intro v594 w50 ho51 hb hg_ hnew_; clear hg_ hnew_; (first | rw [← Ny593.out] at ho51 | (simp only [Int.reduceToNat] at ho51; rw [← Ny593.out] at ho51)); have n0_ := Aside0.mk (Kd.R_lower (Kd.R_newB ho51 (g := gb588) (o := .cells #[.int .i64 t584, .int .i64 t585, .int .i64 t586, .int .i64 t587] 26 (0, 0)) (by (with_reducible repeat (first | refine blk_drewN ?_ _ | refine blk_drew ?_ | refine blk_alloc ?_ _)); exact BK588.out)) (below_size (by repeat (first | (with_reducible first | exact HB.out | apply below_alloc | apply pw_below_drewN | apply below_drew1 | refine below_set ?_ GE588.out) | exact HB.out)))); have n1_ := Aside0.mk (blk_below (g := gb588) (o := .cells #[.int .i64 t584, .int .i64 t585, .int .i64 t586, .int .i64 t587] 26 (0, 0)) (by (with_reducible repeat (first | refine blk_drewN ?_ _ | refine blk_drew ?_ | refine blk_alloc ?_ _)); exact BK588.out) hb); have n2_ := Aside0.mk (below_step (by repeat (first | (with_reducible first | exact HB.out | apply below_alloc | apply pw_below_drewN | apply below_drew1 | refine below_set ?_ GE588.out) | exact HB.out)) hb); clear BK588; clear HB; have HO595 := n0_; have BK588 := n1_; have HB := n2_; clear n0_ n1_ n2_; clear hb ho51; have hcz52_0 : w50.cell? ⟨gb588, 0, none⟩ = some (.int .i64 t584) := (blk_cell BK588.out 0).trans rfl; have hcz52_1 : w50.cell? ⟨gb588, 1, none⟩ = some (.int .i64 t585) := (blk_cell BK588.out 1).trans rfl; have hcz52_2 : w50.cell? ⟨gb588, 2, none⟩ = some (.int .i64 t586) := (blk_cell BK588.out 2).trans rfl; have hcz52_3 : w50.cell? ⟨gb588, 3, none⟩ = some (.int .i64 t587) := (blk_cell BK588.out 3).trans rfl; have hfz52_0 := blk_frozen BK588.out 0; have hfz52_1 := blk_frozen BK588.out 1; have hfz52_2 := blk_frozen BK588.out 2; have hfz52_3 := blk_frozen BK588.out 3) | ((with_reducible refine gate_dst (N := 91) rfl ?_); (try (refine gate_guard (by rfl) ?_; dsimp only)); refine Kd.R_lit k26 _ 26 ?hg (N := 91) ?hd (xs := ([(⟨wrap64 ((wrap64 (t584 + t586)) - 1), t585, 1, t587⟩ : S26)] : List (S26))) (inner := [.int .i64 (wrap64 ((wrap64 (t584 + t586)) - 1)), .int .i64 t585, .int .i64 1, .int .i64 t587]) (ok := fun _ => True) (okp := fun _ => True) ?hr ?hp (fun _ hk => hk) trivial (Below.refl _ _) (Nat.le_refl _) (by simp) ?_; (case hd => rfl); (case hg => rfl); (case hr => first | (go_simp; done) | (go_simp; rfl)); (case hp => exact (Reps.c4 (show Kd.M k26 _ _ _ (⟨wrap64 ((wrap64 (t584 + t586)) - 1), t585, 1, t587⟩ : S26) [.int .i64 (wrap64 ((wrap64 (t584 + t586)) - 1)), .int .i64 t585, .int .i64 1, .int .i64 t587] from (k26_mkM _ _ _ (⟨wrap64 ((wrap64 (t584 + t586)) - 1), t585, 1, t587⟩ : S26) )) (Reps.none _ _))); intro v597 w53 ho54 hb hg_ hnew_; clear hg_ hnew_; (first | rw [← Ny596.out] at ho54 | (simp only [Int.reduceToNat] at ho54; rw [← Ny596.out] at ho54)); have n0_ := Aside0.mk (Kd.R_elder' (by (with_reducible repeat (first | apply Kd.R_alloc | apply Kd.R_drewN | apply Kd.R_drew)); exact HO595.out) (Kd.R_base ho54) hb); have n1_ := Aside0.mk (Kd.R_lower (Kd.R_newB (Kd.R_new' ho54 (Kd.R_lt (by (with_reducible repeat (first | apply Kd.R_alloc | apply Kd.R_drewN | apply Kd.R_drew)); exact HO595.out))) (g := gb588) (o := .cells #[.int .i64 t584, .int .i64 t585, .int .i64 t586, .int .i64 t587] 26 (0, 0)) (by (with_reducible repeat (first | refine blk_drewN ?_ _ | refine blk_drew ?_ | refine blk_alloc ?_ _)); exact BK588.out)) (below_size (by repeat (first | (with_reducible first | exact HB.out | apply below_alloc | apply pw_below_drewN | apply below_drew1 | refine below_set ?_ GE588.out) | exact HB.out)))); have n2_ := Aside0.mk (blk_below (g := gb588) (o := .cells #[.int .i64 t584, .int .i64 t585, .int .i64 t586, .int .i64 t587] 26 (0, 0)) (by (with_reducible repeat (first | refine blk_drewN ?_ _ | refine blk_drew ?_ | refine blk_alloc ?_ _)); exact BK588.out) hb); have n3_ := Aside0.mk (below_step (by repeat (first | (with_reducible first | exact HB.out | apply below_alloc | apply pw_below_drewN | apply below_drew1 | refine below_set ?_ GE588.out) | exact HB.out)) hb); clear HO595; clear BK588; clear HB; have HO595 := n0_; have HO598 := n1_; have BK588 := n2_; have HB := n3_; clear n0_ n1_ n2_ n3_; clear hb ho54; have hcz55_0 : w53.cell? ⟨gb588, 0, none⟩ = some (.int .i64 t584) := (blk_cell BK588.out 0).trans rfl; have hcz55_1 : w53.cell? ⟨gb588, 1, none⟩ = some (.int .i64 t585) := (blk_cell BK588.out 1).trans rfl; have hcz55_2 : w53.cell? ⟨gb588, 2, none⟩ = some (.int .i64 t586) := (blk_cell BK588.out 2).trans rfl; have hcz55_3 : w53.cell? ⟨gb588, 3, none⟩ = some (.int .i64 t587) := (blk_cell BK588.out 3).trans rfl; have hfz55_0 := blk_frozen BK588.out 0; have hfz55_1 := blk_frozen BK588.out 1; have hfz55_2 := blk_frozen BK588.out 2; have hfz55_3 := blk_frozen BK588.out 3) | ((with_reducible refine gate_dst (N := 99) rfl ?_); (try (refine gate_guard (by rfl) ?_; dsimp only)); refine Kd.R_lit k26 _ 26 ?hg (N := 99) ?hd (xs := ([(⟨t584, t585, t586, 1⟩ : S26)] : List (S26))) (inner := [.int .i64 t584, .int .i64 t585, .int .i64 t586, .int .i64 1]) (ok := fun _ => True) (okp := fun _ => True) ?hr ?hp (fun _ hk => hk) trivial (Below.refl _ _) (Nat.le_refl _) (by simp) ?_; (case hd => rfl); (case hg => rfl); (case hr => first | (go_simp; done) | (go_simp; rfl)); (case hp => exact (Reps.c4 (show Kd.M k26 _ _ _ (⟨t584, t585, t586, 1⟩ : S26) [.int .i64 t584, .int .i64 t585, .int .i64 t586, .int .i64 1] from (k26_mkM _ _ _ (⟨t584, t585, t586, 1⟩ : S26) )) (Reps.none _ _))); intro v600 w56 ho57 hb hg_ hnew_; clear hg_ hnew_; (first | rw [← Ny599.out] at ho57 | (simp only [Int.reduceToNat] at ho57; rw [← Ny599.out] at ho57)); have n0_ := Aside0.mk (Kd.R_elder' (by (with_reducible repeat (first | apply Kd.R_alloc | apply Kd.R_drewN | apply Kd.R_drew)); exact HO595.out) (Kd.R_base ho57) hb); have n1_ := Aside0.mk (Kd.R_elder' (by (with_reducible repeat (first | apply Kd.R_alloc | apply Kd.R_drewN | apply Kd.R_drew)); exact HO598.out) (Kd.R_base ho57) hb); have n2_ := Aside0.mk (Kd.R_lower (Kd.R_newB (Kd.R_new' (Kd.R_new' ho57 (Kd.R_lt (by (with_reducible repeat (first | apply Kd.R_alloc | apply Kd.R_drewN | apply Kd.R_drew)); exact HO595.out))) (Kd.R_lt (by (with_reducible repeat (first | apply Kd.R_alloc | apply Kd.R_drewN | apply Kd.R_drew)); exact HO598.out))) (g := gb588) (o := .cells #[.int .i64 t584, .int .i64 t585, .int .i64 t586, .int .i64 t587] 26 (0, 0)) (by (with_reducible repeat (first | refine blk_drewN ?_ _ | refine blk_drew ?_ | refine blk_alloc ?_ _)); exact BK588.out)) (below_size (by repeat (first | (with_reducible first | exact HB.out | apply below_alloc | apply pw_below_drewN | apply below_drew1 | refine below_set ?_ GE588.out) | exact HB.out)))); have n3_ := Aside0.mk (blk_below (g := gb588) (o := .cells #[.int .i64 t584, .int .i64 t585, .int .i64 t586, .int .i64 t587] 26 (0, 0)) (by (with_reducible repeat (first | refine blk_drewN ?_ _ | refine blk_drew ?_ | refine blk_alloc ?_ _)); exact BK588.out) hb); have n4_ := Aside0.mk (below_step (by repeat (first | (with_reducible first | exact HB.out | apply below_alloc | apply pw_below_drewN | apply below_drew1 | refine below_set ?_ GE588.out) | exact HB.out)) hb); clear HO595; clear HO598; clear BK588; clear HB; have HO595 := n0_; have HO598 := n1_; have HO601 := n2_; have BK588 := n3_; have HB := n4_; clear n0_ n1_ n2_ n3_ n4_; clear hb ho57; have hcz58_0 : w56.cell? ⟨gb588, 0, none⟩ = some (.int .i64 t584) := (blk_cell BK588.out 0).trans rfl; have hcz58_1 : w56.cell? ⟨gb588, 1, none⟩ = some (.int .i64 t585) := (blk_cell BK588.out 1).trans rfl; have hcz58_2 : w56.cell? ⟨gb588, 2, none⟩ = some (.int .i64 t586) := (blk_cell BK588.out 2).trans rfl; have hcz58_3 : w56.cell? ⟨gb588, 3, none⟩ = some (.int .i64 t587) := (blk_cell BK588.out 3).trans rfl; have hfz58_0 := blk_frozen BK588.out 0; have hfz58_1 := blk_frozen BK588.out 1; have hfz58_2 := blk_frozen BK588.out 2; have hfz58_3 := blk_frozen BK588.out 3) | ((with_reducible refine gate_dst (N := 111) rfl ?_); (try (refine gate_guard (by rfl) ?_; dsimp only)); refine Kd.R_lit k26 _ 26 ?hg (N := 111) ?hd (xs := ([(⟨t584, wrap64 ((wrap64 (t585 + t587)) - 1), t586, 1⟩ : S26)] : List (S26))) (inner := [.int .i64 t584, .int .i64 (wrap64 ((wrap64 (t585 + t587)) - 1)), .int .i64 t586, .int .i64 1]) (ok := fun _ => True) (okp := fun _ => True) ?hr ?hp (fun _ hk => hk) trivial (Below.refl _ _) (Nat.le_refl _) (by simp) ?_; (case hd => rfl); (case hg => rfl); (case hr => first | (go_simp; done) | (go_simp; rfl)); (case hp => exact (Reps.c4 (show Kd.M k26 _ _ _ (⟨t584, wrap64 ((wrap64 (t585 + t587)) - 1), t586, 1⟩ : S26) [.int .i64 t584, .int .i64 (wrap64 ((wrap64 (t585 + t587)) - 1)), .int .i64 t586, .int .i64 1] from (k26_mkM _ _ _ (⟨t584, wrap64 ((wrap64 (t585 + t587)) - 1), t586, 1⟩ : S26) )) (Reps.none _ _))); intro v603 w59 ho60 hb hg_ hnew_; clear hg_ hnew_; (first | rw [← Ny602.out] at ho60 | (simp only [Int.reduceToNat] at ho60; rw [← Ny602.out] at ho60)); have n0_ := Aside0.mk (Kd.R_elder' (by (with_reducible repeat (first | apply Kd.R_alloc | apply Kd.R_drewN | apply Kd.R_drew)); exact HO595.out) (Kd.R_base ho60) hb); have n1_ := Aside0.mk (Kd.R_elder' (by (with_reducible repeat (first | apply Kd.R_alloc | apply Kd.R_drewN | apply Kd.R_drew)); exact HO598.out) (Kd.R_base ho60) hb); have n2_ := Aside0.mk (Kd.R_elder' (by (with_reducible repeat (first | apply Kd.R_alloc | apply Kd.R_drewN | apply Kd.R_drew)); exact HO601.out) (Kd.R_base ho60) hb); have n3_ := Aside0.mk (Kd.R_lower (Kd.R_newB (Kd.R_new' (Kd.R_new' (Kd.R_new' ho60 (Kd.R_lt (by (with_reducible repeat (first | apply Kd.R_alloc | apply Kd.R_drewN | apply Kd.R_drew)); exact HO595.out))) (Kd.R_lt (by (with_reducible repeat (first | apply Kd.R_alloc | apply Kd.R_drewN | apply Kd.R_drew)); exact HO598.out))) (Kd.R_lt (by (with_reducible repeat (first | apply Kd.R_alloc | apply Kd.R_drewN | apply Kd.R_drew)); exact HO601.out))) (g := gb588) (o := .cells #[.int .i64 t584, .int .i64 t585, .int .i64 t586, .int .i64 t587] 26 (0, 0)) (by (with_reducible repeat (first | refine blk_drewN ?_ _ | refine blk_drew ?_ | refine blk_alloc ?_ _)); exact BK588.out)) (below_size (by repeat (first | (with_reducible first | exact HB.out | apply below_alloc | apply pw_below_drewN | apply below_drew1 | refine below_set ?_ GE588.out) | exact HB.out)))); have n4_ := Aside0.mk (blk_below (g := gb588) (o := .cells #[.int .i64 t584, .int .i64 t585, .int .i64 t586, .int .i64 t587] 26 (0, 0)) (by (with_reducible repeat (first | refine blk_drewN ?_ _ | refine blk_drew ?_ | refine blk_alloc ?_ _)); exact BK588.out) hb); have n5_ := Aside0.mk (below_step (by repeat (first | (with_reducible first | exact HB.out | apply below_alloc | apply pw_below_drewN | apply below_drew1 | refine below_set ?_ GE588.out) | exact HB.out)) hb); clear HO595; clear HO598; clear HO601; clear BK588; clear HB; have HO595 := n0_; have HO598 := n1_; have HO601 := n2_; have HO604 := n3_; have BK588 := n4_; have HB := n5_; clear n0_ n1_ n2_ n3_ n4_ n5_; clear hb ho60; have hcz61_0 : w59.cell? ⟨gb588, 0, none⟩ = some (.int .i64 t584) := (blk_cell BK588.out 0).trans rfl; have hcz61_1 : w59.cell? ⟨gb588, 1, none⟩ = some (.int .i64 t585) := (blk_cell BK588.out 1).trans rfl; have hcz61_2 : w59.cell? ⟨gb588, 2, none⟩ = some (.int .i64 t586) := (blk_cell BK588.out 2).trans rfl; have hcz61_3 : w59.cell? ⟨gb588, 3, none⟩ = some (.int .i64 t587) := (blk_cell BK588.out 3).trans rfl; have hfz61_0 := blk_frozen BK588.out 0; have hfz61_1 := blk_frozen BK588.out 1; have hfz61_2 := blk_frozen BK588.out 2; have hfz61_3 := blk_frozen BK588.out 3) | ((with_reducible refine gate_dst (N := 114) rfl ?_); (try (refine gate_guard (by rfl) ?_; dsimp only)); refine Kd.R_lit k26 _ 26 ?hg (N := 114) ?hd (xs := ([(⟨t584, t585, t586, t587⟩ : S26)] : List (S26))) (inner := [.int .i64 t584, .int .i64 t585, .int .i64 t586, .int .i64 t587]) (ok := fun _ => True) (okp := fun _ => True) ?hr ?hp (fun _ hk => hk) trivial (Below.refl _ _) (Nat.le_refl _) (by simp) ?_; (case hd => rfl); (case hg => rfl); (case hr => first | (go_simp; done) | (go_simp; rfl)); (case hp => exact (Reps.c4 (show Kd.M k26 _ _ _ (⟨t584, t585, t586, t587⟩ : S26) [.int .i64 t584, .int .i64 t585, .int .i64 t586, .int .i64 t587] from (k26_mkM _ _ _ (⟨t584, t585, t586, t587⟩ : S26) )) (Reps.none _ _))); intro v606 w62 ho63 hb hg_ hnew_; clear hg_ hnew_; (first | rw [← Ny605.out] at ho63 | (simp only [Int.reduceToNat] at ho63; rw [← Ny605.out] at ho63)); have n0_ := Aside0.mk (Kd.R_elder' (by (with_reducible repeat (first | apply Kd.R_alloc | apply Kd.R_drewN | apply Kd.R_drew)); exact HO595.out) (Kd.R_base ho63) hb); have n1_ := Aside0.mk (Kd.R_elder' (by (with_reducible repeat (first | apply Kd.R_alloc | apply Kd.R_drewN | apply Kd.R_drew)); exact HO598.out) (Kd.R_base ho63) hb); have n2_ := Aside0.mk (Kd.R_elder' (by (with_reducible repeat (first | apply Kd.R_alloc | apply Kd.R_drewN | apply Kd.R_drew)); exact HO601.out) (Kd.R_base ho63) hb); have n3_ := Aside0.mk (Kd.R_elder' (by (with_reducible repeat (first | apply Kd.R_alloc | apply Kd.R_drewN | apply Kd.R_drew)); exact HO604.out) (Kd.R_base ho63) hb); have n4_ := Aside0.mk (Kd.R_lower (Kd.R_newB (Kd.R_new' (Kd.R_new' (Kd.R_new' (Kd.R_new' ho63 (Kd.R_lt (by (with_reducible repeat (first | apply Kd.R_alloc | apply Kd.R_drewN | apply Kd.R_drew)); exact HO595.out))) (Kd.R_lt (by (with_reducible repeat (first | apply Kd.R_alloc | apply Kd.R_drewN | apply Kd.R_drew)); exact HO598.out))) (Kd.R_lt (by (with_reducible repeat (first | apply Kd.R_alloc | apply Kd.R_drewN | apply Kd.R_drew)); exact HO601.out))) (Kd.R_lt (by (with_reducible repeat (first | apply Kd.R_alloc | apply Kd.R_drewN | apply Kd.R_drew)); exact HO604.out))) (g := gb588) (o := .cells #[.int .i64 t584, .int .i64 t585, .int .i64 t586, .int .i64 t587] 26 (0, 0)) (by (with_reducible repeat (first | refine blk_drewN ?_ _ | refine blk_drew ?_ | refine blk_alloc ?_ _)); exact BK588.out)) (below_size (by repeat (first | (with_reducible first | exact HB.out | apply below_alloc | apply pw_below_drewN | apply below_drew1 | refine below_set ?_ GE588.out) | exact HB.out)))); have n5_ := Aside0.mk (blk_below (g := gb588) (o := .cells #[.int .i64 t584, .int .i64 t585, .int .i64 t586, .int .i64 t587] 26 (0, 0)) (by (with_reducible repeat (first | refine blk_drewN ?_ _ | refine blk_drew ?_ | refine blk_alloc ?_ _)); exact BK588.out) hb); have n6_ := Aside0.mk (below_step (by repeat (first | (with_reducible first | exact HB.out | apply below_alloc | apply pw_below_drewN | apply below_drew1 | refine below_set ?_ GE588.out) | exact HB.out)) hb); clear HO595; clear HO598; clear HO601; clear HO604; clear BK588; clear HB; have HO595 := n0_; have HO598 := n1_; have HO601 := n2_; have HO604 := n3_; have HO607 := n4_; have BK588 := n5_; have HB := n6_; clear n0_ n1_ n2_ n3_ n4_ n5_ n6_; clear hb ho63; obtain ⟨Ao64, co64, eo64⟩ := Kd.R_slice HO607.out; subst eo64) | ((with_reducible refine gate_callee (f := 16) rfl ?_); refine goesL_ (some 115) rfl rfl Try.func16 (by kernel_rfl) rfl #[.slice A0 l0.length c0, .slice Ao64 y605.length co64] rfl (by (try simp only [List.map_toArray, List.map_cons, List.map_nil]); first | done | rfl | (simp only [List.length_drop, List.length_take]; rfl)) ?_; (with_reducible refine (region_Minus.calls _ _ l0 _ _ y605 t608 _ ?side1 ?side2 ?side3 ?side4 A38.out).mono ?_); (case side1 => repeat (first | exact (Kd.C_below HR0.out HB.out) | (with_reducible refine Kd.C_alloc ?_ _) | (with_reducible refine Kd.C_drewN ?_ _) | (with_reducible refine Kd.C_drew ?_))); (case side2 => exact HC0.out); (case side3 => repeat (first | exact (Kd.R_reads' HO607.out).2.2 | (with_reducible refine Kd.C_alloc ?_ _) | (with_reducible refine Kd.C_drewN ?_ _) | (with_reducible refine Kd.C_drew ?_))); (case side4 => exact (Kd.R_reads' HO607.out).2.1); rintro e w65 ⟨v609, rfl, ho0, hb⟩; refine ⟨_, rfl, ?_⟩; have n0_ := Aside0.mk (Kd.R_elder' (by (with_reducible repeat (first | apply Kd.R_alloc | apply Kd.R_drewN | apply Kd.R_drew)); exact HO595.out) (Kd.R_base ho0) hb); have n1_ := Aside0.mk (Kd.R_elder' (by (with_reducible repeat (first | apply Kd.R_alloc | apply Kd.R_drewN | apply Kd.R_drew)); exact HO598.out) (Kd.R_base ho0) hb); have n2_ := Aside0.mk (Kd.R_elder' (by (with_reducible repeat (first | apply Kd.R_alloc | apply Kd.R_drewN | apply Kd.R_drew)); exact HO601.out) (Kd.R_base ho0) hb); have n3_ := Aside0.mk (Kd.R_elder' (by (with_reducible repeat (first | apply Kd.R_alloc | apply Kd.R_drewN | apply Kd.R_drew)); exact HO604.out) (Kd.R_base ho0) hb); have n4_ := Aside0.mk (Kd.R_elder' (by (with_reducible repeat (first | apply Kd.R_alloc | apply Kd.R_drewN | apply Kd.R_drew)); exact HO607.out) (Kd.R_base ho0) hb); have n5_ := Aside0.mk (Kd.R_lower (Kd.R_newB (Kd.R_new' (Kd.R_new' (Kd.R_new' (Kd.R_new' (Kd.R_new' ho0 (Kd.R_lt (by (with_reducible repeat (first | apply Kd.R_alloc | apply Kd.R_drewN | apply Kd.R_drew)); exact HO595.out))) (Kd.R_lt (by (with_reducible repeat (first | apply Kd.R_alloc | apply Kd.R_drewN | apply Kd.R_drew)); exact HO598.out))) (Kd.R_lt (by (with_reducible repeat (first | apply Kd.R_alloc | apply Kd.R_drewN | apply Kd.R_drew)); exact HO601.out))) (Kd.R_lt (by (with_reducible repeat (first | apply Kd.R_alloc | apply Kd.R_drewN | apply Kd.R_drew)); exact HO604.out))) (Kd.R_lt (by (with_reducible repeat (first | apply Kd.R_alloc | apply Kd.R_drewN | apply Kd.R_drew)); exact HO607.out))) (g := gb588) (o := .cells #[.int .i64 t584, .int .i64 t585, .int .i64 t586, .int .i64 t587] 26 (0, 0)) (by (with_reducible repeat (first | refine blk_drewN ?_ _ | refine blk_drew ?_ | refine blk_alloc ?_ _)); exact BK588.out)) (below_size (by repeat (first | (with_reducible first | exact HB.out | apply below_alloc | apply pw_below_drewN | apply below_drew1 | refine below_set ?_ GE588.out) | exact HB.out)))); have n6_ := Aside0.mk (blk_below (g := gb588) (o := .cells #[.int .i64 t584, .int .i64 t585, .int .i64 t586, .int .i64 t587] 26 (0, 0)) (by (with_reducible repeat (first | refine blk_drewN ?_ _ | refine blk_drew ?_ | refine blk_alloc ?_ _)); exact BK588.out) hb); have n7_ := Aside0.mk (below_step (by repeat (first | (with_reducible first | exact HB.out | apply below_alloc | apply pw_below_drewN | apply below_drew1 | refine below_set ?_ GE588.out) | exact HB.out)) hb); clear HO595; clear HO598; clear HO601; clear HO604; clear HO607; clear BK588; clear HB; have HO595 := n0_; have HO598 := n1_; have HO601 := n2_; have HO604 := n3_; have HO607 := n4_; have HO610 := n5_; have BK588 := n6_; have HB := n7_; clear n0_ n1_ n2_ n3_ n4_ n5_ n6_ n7_; (try clear hb); (try clear hb2); (try clear hk); (try clear hi); (try clear ho0); obtain ⟨Ao66, co66, eo66⟩ := Kd.R_slice HO610.out; subst eo66))
                            have n0_ := Aside0.mk (Kd.R_drew HO595.out)
                            have n1_ := Aside0.mk (Kd.R_drew HO598.out)
                            have n2_ := Aside0.mk (Kd.R_drew HO601.out)
                            have n3_ := Aside0.mk (Kd.R_drew HO604.out)
                            have n4_ := Aside0.mk (Kd.R_drew HO607.out)
                            have n5_ := Aside0.mk (Kd.R_drew HO610.out)
                            have n6_ := Aside0.mk (blk_drew BK588.out)
                            have n7_ := Aside0.mk (below_drew1 HB.out)
                            clear HO595
                            clear HO598
                            clear HO601
                            clear HO604
                            clear HO607
                            clear HO610
                            clear BK588
                            clear HB
                            have HO595 := n0_
                            have HO598 := n1_
                            have HO601 := n2_
                            have HO604 := n3_
                            have HO607 := n4_
                            have HO610 := n5_
                            have BK588 := n6_
                            have HB := n7_
                            clear n0_ n1_ n2_ n3_ n4_ n5_ n6_ n7_
                            obtain ⟨Ao68, co68, eo68⟩ := Kd.R_slice HO595.out
                            (first | subst eo68 | (injection eo68 with f1_ f2_ f3_; have f4_ := f1_.symm; have f5_ := f3_.symm; clear f1_ f2_ f3_; subst f4_; subst f5_))
                            refine start_ (n := 43) (S := fun w' => w'.cell? ⟨gb588, 0, none⟩ = some (.int .i64 t584) ∧ w'.cell? ⟨gb588, 1, none⟩ = some (.int .i64 t585) ∧ w'.cell? ⟨gb588, 2, none⟩ = some (.int .i64 t586) ∧ w'.cell? ⟨gb588, 3, none⟩ = some (.int .i64 t587)) (ds := []) #[false, false, false, false, false, false, false, false, false, false, false, false, false, false, false, false, false, false, false, false, false, false, false, false, false, false, false, false, false, false, false, false, false, false, false, false, false, false, false, false, false, false, false] (by kernel_rfl) rfl rfl ⟨(blk_cell BK588.out 0).trans rfl, (blk_cell BK588.out 1).trans rfl, (blk_cell BK588.out 2).trans rfl, (blk_cell BK588.out 3).trans rfl⟩ (fun hHeld => ?_); refine with_tabW miradorlaw15_RegionBounds.tab18 miradorlaw15_RegionBounds.bits18 (fun HT_ HW_ => ?_)
                            generalize w65.drew = w67 at HO595 HO598 HO601 HO604 HO607 HO610 BK588 HB hHeld ⊢
                            refine pure_ (i := 0) (N := some 118) (v := ?_) (a' := ?_) #[true, false, false, false, false, false, false, false, false, false, false, false, false, false, false, false, false, false, false, false, false, false, false, false, false, false, false, false, false, false, false, false, false, false, false, false, false, false, false, false, false, false, false] rfl rfl (any_of HT_.out (by kernel_rfl)) (fun _ _ _ h => h) (Or.inl ⟨by rfl, ?_⟩) ?_ ?_
                            rotate_left
                            · intro w'
                              go_simp
                              with_reducible rfl
                            rotate_left
                            · simp only [Act.put, List.setIfInBounds_toArray, List.set_cons_zero, List.set_cons_succ, i64_w, i32_w]
                              rfl
                            refine pure_ (i := 1) (N := some 119) (v := ?_) (a' := ?_) #[true, true, false, false, false, false, false, false, false, false, false, false, false, false, false, false, false, false, false, false, false, false, false, false, false, false, false, false, false, false, false, false, false, false, false, false, false, false, false, false, false, false, false] rfl rfl (any_of HT_.out (by kernel_rfl)) (fun _ _ _ h => h) (Or.inl ⟨by rfl, ?_⟩) ?_ ?_
                            rotate_left
                            · intro w'
                              go_simp
                              with_reducible rfl
                            rotate_left
                            · simp only [Act.put, List.setIfInBounds_toArray, List.set_cons_zero, List.set_cons_succ, i64_w, i32_w]
                              rfl
                            refine pure_ (i := 2) (N := some 120) (v := ?_) (a' := ?_) #[true, true, true, false, false, false, false, false, false, false, false, false, false, false, false, false, false, false, false, false, false, false, false, false, false, false, false, false, false, false, false, false, false, false, false, false, false, false, false, false, false, false, false] rfl rfl (any_of HT_.out (by kernel_rfl)) (fun _ _ _ h => h) (Or.inl ⟨by rfl, ?_⟩) ?_ ?_
                            rotate_left
                            · intro w'
                              go_simp
                              with_reducible rfl
                            rotate_left
                            · simp only [Act.put, List.setIfInBounds_toArray, List.set_cons_zero, List.set_cons_succ, i64_w, i32_w]
                              rfl
                            refine pure_ (i := 3) (N := some 121) (v := ?_) (a' := ?_) #[true, true, true, true, false, false, false, false, false, false, false, false, false, false, false, false, false, false, false, false, false, false, false, false, false, false, false, false, false, false, false, false, false, false, false, false, false, false, false, false, false, false, false] rfl rfl (any_of HT_.out (by kernel_rfl)) (fun _ _ _ h => h) (Or.inl ⟨by rfl, ?_⟩) ?_ ?_
                            rotate_left
                            · intro w'
                              go_simp
                              with_reducible rfl
                            rotate_left
                            · simp only [Act.put, List.setIfInBounds_toArray, List.set_cons_zero, List.set_cons_succ, i64_w, i32_w]
                              rfl
                            refine pure_ (i := 4) (N := some 122) (v := ?_) (a' := ?_) #[true, true, true, true, true, false, false, false, false, false, false, false, false, false, false, false, false, false, false, false, false, false, false, false, false, false, false, false, false, false, false, false, false, false, false, false, false, false, false, false, false, false, false] rfl rfl (any_of HT_.out (by kernel_rfl)) (fun _ _ _ h => h) (Or.inl ⟨by rfl, ?_⟩) ?_ ?_
                            rotate_left
                            · intro w'
                              go_simp
                              with_reducible rfl
                            rotate_left
                            · simp only [Act.put, List.setIfInBounds_toArray, List.set_cons_zero, List.set_cons_succ, i64_w, i32_w]
                              rfl
                            refine pure_ (i := 5) (N := some 123) (v := ?_) (a' := ?_) #[true, true, true, true, true, true, false, false, false, false, false, false, false, false, false, false, false, false, false, false, false, false, false, false, false, false, false, false, false, false, false, false, false, false, false, false, false, false, false, false, false, false, false] rfl rfl (any_of HT_.out (by kernel_rfl)) (fun _ _ _ h => h) (Or.inl ⟨by rfl, ?_⟩) ?_ ?_
                            rotate_left
                            · intro w'
                              go_simp
                              with_reducible rfl
                            rotate_left
                            · simp only [Act.put, List.setIfInBounds_toArray, List.set_cons_zero, List.set_cons_succ, i64_w, i32_w]
                              rfl
                            refine pure_ (i := 6) (N := some 124) (v := ?_) (a' := ?_) #[true, true, true, true, true, true, true, false, false, false, false, false, false, false, false, false, false, false, false, false, false, false, false, false, false, false, false, false, false, false, false, false, false, false, false, false, false, false, false, false, false, false, false] rfl rfl (any_of HT_.out (by kernel_rfl)) (fun _ _ _ h => h) (Or.inl ⟨by rfl, ?_⟩) ?_ ?_
                            rotate_left
                            · intro w'
                              go_simp
                              with_reducible rfl
                            rotate_left
                            · simp only [Act.put, List.setIfInBounds_toArray, List.set_cons_zero, List.set_cons_succ, i64_w, i32_w]
                              rfl
                            refine one_ (i := 7) (N := some 125) #[true, true, true, true, true, true, true, true, false, false, false, false, false, false, false, false, false, false, false, false, false, false, false, false, false, false, false, false, false, false, false, false, false, false, false, false, false, false, false, false, false, false, false] rfl rfl (one_of HT_.out (by kernel_rfl)) (by decide) (fun K hK => ?_)
                            refine goes_ Try.func17 (by kernel_rfl) rfl #[.slice A0 l0.length c0, .slice Ao68 y593.length co68] (by rfl) rfl rfl (by (try simp only [List.map_toArray, List.map_cons, List.map_nil]); first | done | rfl | (simp only [List.length_drop, List.length_take]; rfl)) ?_
                            with_reducible refine (region_Both.calls _ _ l0 _ _ y593 t611 _ ?side1 ?side2 ?side3 ?side4 A40.out).mono ?_
                            (case side1 => repeat (first | exact (Kd.C_below HR0.out HB.out) | (with_reducible refine Kd.C_alloc ?_ _) | (with_reducible refine Kd.C_drewN ?_ _) | (with_reducible refine Kd.C_drew ?_)))
                            (case side2 => exact HC0.out)
                            (case side3 => repeat (first | exact (Kd.R_reads' HO595.out).2.2 | (with_reducible refine Kd.C_alloc ?_ _) | (with_reducible refine Kd.C_drewN ?_ _) | (with_reducible refine Kd.C_drew ?_)))
                            (case side4 => exact (Kd.R_reads' HO595.out).2.1)
                            rintro e w69 ⟨v612, rfl, ho0, hb⟩
                            refine ⟨_, rfl, ?_⟩
                            have n0_ := Aside0.mk (Kd.R_elder' (by (with_reducible repeat (first | apply Kd.R_alloc | apply Kd.R_drewN | apply Kd.R_drew)); exact HO595.out) (Kd.R_base ho0) hb)
                            have n1_ := Aside0.mk (Kd.R_elder' (by (with_reducible repeat (first | apply Kd.R_alloc | apply Kd.R_drewN | apply Kd.R_drew)); exact HO598.out) (Kd.R_base ho0) hb)
                            have n2_ := Aside0.mk (Kd.R_elder' (by (with_reducible repeat (first | apply Kd.R_alloc | apply Kd.R_drewN | apply Kd.R_drew)); exact HO601.out) (Kd.R_base ho0) hb)
                            have n3_ := Aside0.mk (Kd.R_elder' (by (with_reducible repeat (first | apply Kd.R_alloc | apply Kd.R_drewN | apply Kd.R_drew)); exact HO604.out) (Kd.R_base ho0) hb)
                            have n4_ := Aside0.mk (Kd.R_elder' (by (with_reducible repeat (first | apply Kd.R_alloc | apply Kd.R_drewN | apply Kd.R_drew)); exact HO607.out) (Kd.R_base ho0) hb)
                            have n5_ := Aside0.mk (Kd.R_elder' (by (with_reducible repeat (first | apply Kd.R_alloc | apply Kd.R_drewN | apply Kd.R_drew)); exact HO610.out) (Kd.R_base ho0) hb)
                            have n6_ := Aside0.mk (Kd.R_lower (Kd.R_newB (Kd.R_new' (Kd.R_new' (Kd.R_new' (Kd.R_new' (Kd.R_new' (Kd.R_new' ho0 (Kd.R_lt (by (with_reducible repeat (first | apply Kd.R_alloc | apply Kd.R_drewN | apply Kd.R_drew)); exact HO595.out))) (Kd.R_lt (by (with_reducible repeat (first | apply Kd.R_alloc | apply Kd.R_drewN | apply Kd.R_drew)); exact HO598.out))) (Kd.R_lt (by (with_reducible repeat (first | apply Kd.R_alloc | apply Kd.R_drewN | apply Kd.R_drew)); exact HO601.out))) (Kd.R_lt (by (with_reducible repeat (first | apply Kd.R_alloc | apply Kd.R_drewN | apply Kd.R_drew)); exact HO604.out))) (Kd.R_lt (by (with_reducible repeat (first | apply Kd.R_alloc | apply Kd.R_drewN | apply Kd.R_drew)); exact HO607.out))) (Kd.R_lt (by (with_reducible repeat (first | apply Kd.R_alloc | apply Kd.R_drewN | apply Kd.R_drew)); exact HO610.out))) (g := gb588) (o := .cells #[.int .i64 t584, .int .i64 t585, .int .i64 t586, .int .i64 t587] 26 (0, 0)) (by (with_reducible repeat (first | refine blk_drewN ?_ _ | refine blk_drew ?_ | refine blk_alloc ?_ _)); exact BK588.out)) (below_size (by repeat (first | (with_reducible first | exact HB.out | apply below_alloc | apply pw_below_drewN | apply below_drew1 | refine below_set ?_ GE588.out) | exact HB.out))))
                            have n7_ := Aside0.mk (blk_below (g := gb588) (o := .cells #[.int .i64 t584, .int .i64 t585, .int .i64 t586, .int .i64 t587] 26 (0, 0)) (by (with_reducible repeat (first | refine blk_drewN ?_ _ | refine blk_drew ?_ | refine blk_alloc ?_ _)); exact BK588.out) hb)
                            have n8_ := Aside0.mk (below_step (by repeat (first | (with_reducible first | exact HB.out | apply below_alloc | apply pw_below_drewN | apply below_drew1 | refine below_set ?_ GE588.out) | exact HB.out)) hb)
                            clear HO595
                            clear HO598
                            clear HO601
                            clear HO604
                            clear HO607
                            clear HO610
                            clear BK588
                            clear HB
                            have HO595 := n0_
                            have HO598 := n1_
                            have HO601 := n2_
                            have HO604 := n3_
                            have HO607 := n4_
                            have HO610 := n5_
                            have HO613 := n6_
                            have BK588 := n7_
                            have HB := n8_
                            clear n0_ n1_ n2_ n3_ n4_ n5_ n6_ n7_ n8_
                            (try clear hb)
                            (try clear hb2)
                            (try clear hk)
                            (try clear hi)
                            (try clear ho0)
                            obtain ⟨Ao70, co70, eo70⟩ := Kd.R_slice HO613.out
                            (first | subst eo70 | (injection eo70 with f1_ f2_ f3_; have f4_ := f1_.symm; have f5_ := f3_.symm; clear f1_ f2_ f3_; subst f4_; subst f5_))
                            obtain ⟨Ao71, co71, eo71⟩ := Kd.R_slice HO598.out
                            (first | subst eo71 | (injection eo71 with f1_ f2_ f3_; have f4_ := f1_.symm; have f5_ := f3_.symm; clear f1_ f2_ f3_; subst f4_; subst f5_))
                            refine hK.out _ _ ⟨(blk_cell BK588.out 0).trans rfl, (blk_cell BK588.out 1).trans rfl, (blk_cell BK588.out 2).trans rfl, (blk_cell BK588.out 3).trans rfl⟩ (fun hHeld => ?_)
                            clear hK K
                            refine norm_ (a' := ?_) ?_ ?_
                            rotate_left
                            · show Act.put _ (some 125) _ = _
                              simp only [Act.put, List.setIfInBounds_toArray, List.set_cons_zero, List.set_cons_succ, i64_w, i32_w]
                              rfl
                            refine pure_ (i := 8) (N := some 126) (v := ?_) (a' := ?_) #[true, true, true, true, true, true, true, true, true, false, false, false, false, false, false, false, false, false, false, false, false, false, false, false, false, false, false, false, false, false, false, false, false, false, false, false, false, false, false, false, false, false, false] rfl rfl (any_of HT_.out (by kernel_rfl)) (fun _ _ _ h => h) (Or.inl ⟨by rfl, ?_⟩) ?_ ?_
                            rotate_left
                            · intro w'
                              go_simp
                              with_reducible rfl
                            rotate_left
                            · simp only [Act.put, List.setIfInBounds_toArray, List.set_cons_zero, List.set_cons_succ, i64_w, i32_w]
                              rfl
                            refine pure_ (i := 9) (N := some 127) (v := ?_) (a' := ?_) #[true, true, true, true, true, true, true, true, true, true, false, false, false, false, false, false, false, false, false, false, false, false, false, false, false, false, false, false, false, false, false, false, false, false, false, false, false, false, false, false, false, false, false] rfl rfl (any_of HT_.out (by kernel_rfl)) (fun _ _ _ h => h) (Or.inl ⟨by rfl, ?_⟩) ?_ ?_
                            rotate_left
                            · intro w'
                              go_simp
                              with_reducible rfl
                            rotate_left
                            · simp only [Act.put, List.setIfInBounds_toArray, List.set_cons_zero, List.set_cons_succ, i64_w, i32_w]
                              rfl
                            refine pure_ (i := 10) (N := some 128) (v := ?_) (a' := ?_) #[true, true, true, true, true, true, true, true, true, true, true, false, false, false, false, false, false, false, false, false, false, false, false, false, false, false, false, false, false, false, false, false, false, false, false, false, false, false, false, false, false, false, false] rfl rfl (any_of HT_.out (by kernel_rfl)) (fun _ _ _ h => h) (Or.inl ⟨by rfl, ?_⟩) ?_ ?_
                            rotate_left
                            · intro w'
                              go_simp
                              with_reducible rfl
                            rotate_left
                            · simp only [Act.put, List.setIfInBounds_toArray, List.set_cons_zero, List.set_cons_succ, i64_w, i32_w]
                              rfl
                            refine pure_ (i := 11) (N := some 129) (v := ?_) (a' := ?_) #[true, true, true, true, true, true, true, true, true, true, true, true, false, false, false, false, false, false, false, false, false, false, false, false, false, false, false, false, false, false, false, false, false, false, false, false, false, false, false, false, false, false, false] rfl rfl (any_of HT_.out (by kernel_rfl)) (fun _ _ _ h => h) (Or.inl ⟨by rfl, ?_⟩) ?_ ?_
                            rotate_left
                            · intro w'
                              go_simp
                              with_reducible rfl
                            rotate_left
                            · simp only [Act.put, List.setIfInBounds_toArray, List.set_cons_zero, List.set_cons_succ, i64_w, i32_w]
                              rfl
                            refine pure_ (i := 12) (N := some 130) (v := ?_) (a' := ?_) #[true, true, true, true, true, true, true, true, true, true, true, true, true, false, false, false, false, false, false, false, false, false, false, false, false, false, false, false, false, false, false, false, false, false, false, false, false, false, false, false, false, false, false] rfl rfl (any_of HT_.out (by kernel_rfl)) (fun _ _ _ h => h) (Or.inl ⟨by rfl, ?_⟩) ?_ ?_
                            rotate_left
                            · intro w'
                              go_simp
                              with_reducible rfl
                            rotate_left
                            · simp only [Act.put, List.setIfInBounds_toArray, List.set_cons_zero, List.set_cons_succ, i64_w, i32_w]
                              rfl
                            refine pure_ (i := 13) (N := some 131) (v := ?_) (a' := ?_) #[true, true, true, true, true, true, true, true, true, true, true, true, true, true, false, false, false, false, false, false, false, false, false, false, false, false, false, false, false, false, false, false, false, false, false, false, false, false, false, false, false, false, false] rfl rfl (any_of HT_.out (by kernel_rfl)) (fun _ _ _ h => h) (Or.inl ⟨by rfl, ?_⟩) ?_ ?_
                            rotate_left
                            · intro w'
                              go_simp
                              with_reducible rfl
                            rotate_left
                            · simp only [Act.put, List.setIfInBounds_toArray, List.set_cons_zero, List.set_cons_succ, i64_w, i32_w]
                              rfl
                            refine one_ (i := 14) (N := some 132) #[true, true, true, true, true, true, true, true, true, true, true, true, true, true, true, false, false, false, false, false, false, false, false, false, false, false, false, false, false, false, false, false, false, false, false, false, false, false, false, false, false, false, false] rfl rfl (one_of HT_.out (by kernel_rfl)) (by decide) (fun K hK => ?_)
                            refine goes_ Try.func17 (by kernel_rfl) rfl #[.slice A0 l0.length c0, .slice Ao71 y596.length co71] (by rfl) rfl rfl (by (try simp only [List.map_toArray, List.map_cons, List.map_nil]); first | done | rfl | (simp only [List.length_drop, List.length_take]; rfl)) ?_
                            with_reducible refine (region_Both.calls _ _ l0 _ _ y596 t614 _ ?side1 ?side2 ?side3 ?side4 A42.out).mono ?_
                            (case side1 => repeat (first | exact (Kd.C_below HR0.out HB.out) | (with_reducible refine Kd.C_alloc ?_ _) | (with_reducible refine Kd.C_drewN ?_ _) | (with_reducible refine Kd.C_drew ?_)))
                            (case side2 => exact HC0.out)
                            (case side3 => repeat (first | exact (Kd.R_reads' HO598.out).2.2 | (with_reducible refine Kd.C_alloc ?_ _) | (with_reducible refine Kd.C_drewN ?_ _) | (with_reducible refine Kd.C_drew ?_)))
                            (case side4 => exact (Kd.R_reads' HO598.out).2.1)
                            rintro e w72 ⟨v615, rfl, ho0, hb⟩
                            refine ⟨_, rfl, ?_⟩
                            have n0_ := Aside0.mk (Kd.R_elder' (by (with_reducible repeat (first | apply Kd.R_alloc | apply Kd.R_drewN | apply Kd.R_drew)); exact HO595.out) (Kd.R_base ho0) hb)
                            have n1_ := Aside0.mk (Kd.R_elder' (by (with_reducible repeat (first | apply Kd.R_alloc | apply Kd.R_drewN | apply Kd.R_drew)); exact HO598.out) (Kd.R_base ho0) hb)
                            have n2_ := Aside0.mk (Kd.R_elder' (by (with_reducible repeat (first | apply Kd.R_alloc | apply Kd.R_drewN | apply Kd.R_drew)); exact HO601.out) (Kd.R_base ho0) hb)
                            have n3_ := Aside0.mk (Kd.R_elder' (by (with_reducible repeat (first | apply Kd.R_alloc | apply Kd.R_drewN | apply Kd.R_drew)); exact HO604.out) (Kd.R_base ho0) hb)
                            have n4_ := Aside0.mk (Kd.R_elder' (by (with_reducible repeat (first | apply Kd.R_alloc | apply Kd.R_drewN | apply Kd.R_drew)); exact HO607.out) (Kd.R_base ho0) hb)
                            have n5_ := Aside0.mk (Kd.R_elder' (by (with_reducible repeat (first | apply Kd.R_alloc | apply Kd.R_drewN | apply Kd.R_drew)); exact HO610.out) (Kd.R_base ho0) hb)
                            have n6_ := Aside0.mk (Kd.R_elder' (by (with_reducible repeat (first | apply Kd.R_alloc | apply Kd.R_drewN | apply Kd.R_drew)); exact HO613.out) (Kd.R_base ho0) hb)
                            have n7_ := Aside0.mk (Kd.R_lower (Kd.R_newB (Kd.R_new' (Kd.R_new' (Kd.R_new' (Kd.R_new' (Kd.R_new' (Kd.R_new' (Kd.R_new' ho0 (Kd.R_lt (by (with_reducible repeat (first | apply Kd.R_alloc | apply Kd.R_drewN | apply Kd.R_drew)); exact HO595.out))) (Kd.R_lt (by (with_reducible repeat (first | apply Kd.R_alloc | apply Kd.R_drewN | apply Kd.R_drew)); exact HO598.out))) (Kd.R_lt (by (with_reducible repeat (first | apply Kd.R_alloc | apply Kd.R_drewN | apply Kd.R_drew)); exact HO601.out))) (Kd.R_lt (by (with_reducible repeat (first | apply Kd.R_alloc | apply Kd.R_drewN | apply Kd.R_drew)); exact HO604.out))) (Kd.R_lt (by (with_reducible repeat (first | apply Kd.R_alloc | apply Kd.R_drewN | apply Kd.R_drew)); exact HO607.out))) (Kd.R_lt (by (with_reducible repeat (first | apply Kd.R_alloc | apply Kd.R_drewN | apply Kd.R_drew)); exact HO610.out))) (Kd.R_lt (by (with_reducible repeat (first | apply Kd.R_alloc | apply Kd.R_drewN | apply Kd.R_drew)); exact HO613.out))) (g := gb588) (o := .cells #[.int .i64 t584, .int .i64 t585, .int .i64 t586, .int .i64 t587] 26 (0, 0)) (by (with_reducible repeat (first | refine blk_drewN ?_ _ | refine blk_drew ?_ | refine blk_alloc ?_ _)); exact BK588.out)) (below_size (by repeat (first | (with_reducible first | exact HB.out | apply below_alloc | apply pw_below_drewN | apply below_drew1 | refine below_set ?_ GE588.out) | exact HB.out))))
                            have n8_ := Aside0.mk (blk_below (g := gb588) (o := .cells #[.int .i64 t584, .int .i64 t585, .int .i64 t586, .int .i64 t587] 26 (0, 0)) (by (with_reducible repeat (first | refine blk_drewN ?_ _ | refine blk_drew ?_ | refine blk_alloc ?_ _)); exact BK588.out) hb)
                            have n9_ := Aside0.mk (below_step (by repeat (first | (with_reducible first | exact HB.out | apply below_alloc | apply pw_below_drewN | apply below_drew1 | refine below_set ?_ GE588.out) | exact HB.out)) hb)
                            clear HO595
                            clear HO598
                            clear HO601
                            clear HO604
                            clear HO607
                            clear HO610
                            clear HO613
                            clear BK588
                            clear HB
                            have HO595 := n0_
                            have HO598 := n1_
                            have HO601 := n2_
                            have HO604 := n3_
                            have HO607 := n4_
                            have HO610 := n5_
                            have HO613 := n6_
                            have HO616 := n7_
                            have BK588 := n8_
                            have HB := n9_
                            clear n0_ n1_ n2_ n3_ n4_ n5_ n6_ n7_ n8_ n9_
                            (try clear hb)
                            (try clear hb2)
                            (try clear hk)
                            (try clear hi)
                            (try clear ho0)
                            obtain ⟨Ao73, co73, eo73⟩ := Kd.R_slice HO616.out
                            (first | subst eo73 | (injection eo73 with f1_ f2_ f3_; have f4_ := f1_.symm; have f5_ := f3_.symm; clear f1_ f2_ f3_; subst f4_; subst f5_))
                            obtain ⟨Ao74, co74, eo74⟩ := Kd.R_slice HO601.out
                            (first | subst eo74 | (injection eo74 with f1_ f2_ f3_; have f4_ := f1_.symm; have f5_ := f3_.symm; clear f1_ f2_ f3_; subst f4_; subst f5_))
                            refine hK.out _ _ ⟨(blk_cell BK588.out 0).trans rfl, (blk_cell BK588.out 1).trans rfl, (blk_cell BK588.out 2).trans rfl, (blk_cell BK588.out 3).trans rfl⟩ (fun hHeld => ?_)
                            clear hK K
                            refine norm_ (a' := ?_) ?_ ?_
                            rotate_left
                            · show Act.put _ (some 132) _ = _
                              simp only [Act.put, List.setIfInBounds_toArray, List.set_cons_zero, List.set_cons_succ, i64_w, i32_w]
                              rfl
                            refine pure_ (i := 15) (N := some 133) (v := ?_) (a' := ?_) #[true, true, true, true, true, true, true, true, true, true, true, true, true, true, true, true, false, false, false, false, false, false, false, false, false, false, false, false, false, false, false, false, false, false, false, false, false, false, false, false, false, false, false] rfl rfl (any_of HT_.out (by kernel_rfl)) (fun _ _ _ h => h) (Or.inl ⟨by rfl, ?_⟩) ?_ ?_
                            rotate_left
                            · intro w'
                              go_simp
                              with_reducible rfl
                            rotate_left
                            · simp only [Act.put, List.setIfInBounds_toArray, List.set_cons_zero, List.set_cons_succ, i64_w, i32_w]
                              rfl
                            refine pure_ (i := 16) (N := some 134) (v := ?_) (a' := ?_) #[true, true, true, true, true, true, true, true, true, true, true, true, true, true, true, true, true, false, false, false, false, false, false, false, false, false, false, false, false, false, false, false, false, false, false, false, false, false, false, false, false, false, false] rfl rfl (any_of HT_.out (by kernel_rfl)) (fun _ _ _ h => h) (Or.inl ⟨by rfl, ?_⟩) ?_ ?_
                            rotate_left
                            · intro w'
                              go_simp
                              with_reducible rfl
                            rotate_left
                            · simp only [Act.put, List.setIfInBounds_toArray, List.set_cons_zero, List.set_cons_succ, i64_w, i32_w]
                              rfl
                            refine pure_ (i := 17) (N := some 135) (v := ?_) (a' := ?_) #[true, true, true, true, true, true, true, true, true, true, true, true, true, true, true, true, true, true, false, false, false, false, false, false, false, false, false, false, false, false, false, false, false, false, false, false, false, false, false, false, false, false, false] rfl rfl (any_of HT_.out (by kernel_rfl)) (fun _ _ _ h => h) (Or.inl ⟨by rfl, ?_⟩) ?_ ?_
                            rotate_left
                            · intro w'
                              go_simp
                              with_reducible rfl
                            rotate_left
                            · simp only [Act.put, List.setIfInBounds_toArray, List.set_cons_zero, List.set_cons_succ, i64_w, i32_w]
                              rfl
                            refine pure_ (i := 18) (N := some 136) (v := ?_) (a' := ?_) #[true, true, true, true, true, true, true, true, true, true, true, true, true, true, true, true, true, true, true, false, false, false, false, false, false, false, false, false, false, false, false, false, false, false, false, false, false, false, false, false, false, false, false] rfl rfl (any_of HT_.out (by kernel_rfl)) (fun _ _ _ h => h) (Or.inl ⟨by rfl, ?_⟩) ?_ ?_
                            rotate_left
                            · intro w'
                              go_simp
                              with_reducible rfl
                            rotate_left
                            · simp only [Act.put, List.setIfInBounds_toArray, List.set_cons_zero, List.set_cons_succ, i64_w, i32_w]
                              rfl
                            refine pure_ (i := 19) (N := some 137) (v := ?_) (a' := ?_) #[true, true, true, true, true, true, true, true, true, true, true, true, true, true, true, true, true, true, true, true, false, false, false, false, false, false, false, false, false, false, false, false, false, false, false, false, false, false, false, false, false, false, false] rfl rfl (any_of HT_.out (by kernel_rfl)) (fun _ _ _ h => h) (Or.inl ⟨by rfl, ?_⟩) ?_ ?_
                            rotate_left
                            · intro w'
                              go_simp
                              with_reducible rfl
                            rotate_left
                            · simp only [Act.put, List.setIfInBounds_toArray, List.set_cons_zero, List.set_cons_succ, i64_w, i32_w]
                              rfl
                            refine pure_ (i := 20) (N := some 138) (v := ?_) (a' := ?_) #[true, true, true, true, true, true, true, true, true, true, true, true, true, true, true, true, true, true, true, true, true, false, false, false, false, false, false, false, false, false, false, false, false, false, false, false, false, false, false, false, false, false, false] rfl rfl (any_of HT_.out (by kernel_rfl)) (fun _ _ _ h => h) (Or.inl ⟨by rfl, ?_⟩) ?_ ?_
                            rotate_left
                            · intro w'
                              go_simp
                              with_reducible rfl
                            rotate_left
                            · simp only [Act.put, List.setIfInBounds_toArray, List.set_cons_zero, List.set_cons_succ, i64_w, i32_w]
                              rfl
                            refine one_ (i := 21) (N := some 139) #[true, true, true, true, true, true, true, true, true, true, true, true, true, true, true, true, true, true, true, true, true, true, false, false, false, false, false, false, false, false, false, false, false, false, false, false, false, false, false, false, false, false, false] rfl rfl (one_of HT_.out (by kernel_rfl)) (by decide) (fun K hK => ?_)
                            refine goes_ Try.func17 (by kernel_rfl) rfl #[.slice A0 l0.length c0, .slice Ao74 y599.length co74] (by rfl) rfl rfl (by (try simp only [List.map_toArray, List.map_cons, List.map_nil]); first | done | rfl | (simp only [List.length_drop, List.length_take]; rfl)) ?_
                            with_reducible refine (region_Both.calls _ _ l0 _ _ y599 t617 _ ?side1 ?side2 ?side3 ?side4 A44.out).mono ?_
                            (case side1 => repeat (first | exact (Kd.C_below HR0.out HB.out) | (with_reducible refine Kd.C_alloc ?_ _) | (with_reducible refine Kd.C_drewN ?_ _) | (with_reducible refine Kd.C_drew ?_)))
                            (case side2 => exact HC0.out)
                            (case side3 => repeat (first | exact (Kd.R_reads' HO601.out).2.2 | (with_reducible refine Kd.C_alloc ?_ _) | (with_reducible refine Kd.C_drewN ?_ _) | (with_reducible refine Kd.C_drew ?_)))
                            (case side4 => exact (Kd.R_reads' HO601.out).2.1)
                            rintro e w75 ⟨v618, rfl, ho0, hb⟩
                            refine ⟨_, rfl, ?_⟩
                            have n0_ := Aside0.mk (Kd.R_elder' (by (with_reducible repeat (first | apply Kd.R_alloc | apply Kd.R_drewN | apply Kd.R_drew)); exact HO595.out) (Kd.R_base ho0) hb)
                            have n1_ := Aside0.mk (Kd.R_elder' (by (with_reducible repeat (first | apply Kd.R_alloc | apply Kd.R_drewN | apply Kd.R_drew)); exact HO598.out) (Kd.R_base ho0) hb)
                            have n2_ := Aside0.mk (Kd.R_elder' (by (with_reducible repeat (first | apply Kd.R_alloc | apply Kd.R_drewN | apply Kd.R_drew)); exact HO601.out) (Kd.R_base ho0) hb)
                            have n3_ := Aside0.mk (Kd.R_elder' (by (with_reducible repeat (first | apply Kd.R_alloc | apply Kd.R_drewN | apply Kd.R_drew)); exact HO604.out) (Kd.R_base ho0) hb)
                            have n4_ := Aside0.mk (Kd.R_elder' (by (with_reducible repeat (first | apply Kd.R_alloc | apply Kd.R_drewN | apply Kd.R_drew)); exact HO607.out) (Kd.R_base ho0) hb)
                            have n5_ := Aside0.mk (Kd.R_elder' (by (with_reducible repeat (first | apply Kd.R_alloc | apply Kd.R_drewN | apply Kd.R_drew)); exact HO610.out) (Kd.R_base ho0) hb)
                            have n6_ := Aside0.mk (Kd.R_elder' (by (with_reducible repeat (first | apply Kd.R_alloc | apply Kd.R_drewN | apply Kd.R_drew)); exact HO613.out) (Kd.R_base ho0) hb)
                            have n7_ := Aside0.mk (Kd.R_elder' (by (with_reducible repeat (first | apply Kd.R_alloc | apply Kd.R_drewN | apply Kd.R_drew)); exact HO616.out) (Kd.R_base ho0) hb)
                            have n8_ := Aside0.mk (Kd.R_lower (Kd.R_newB (Kd.R_new' (Kd.R_new' (Kd.R_new' (Kd.R_new' (Kd.R_new' (Kd.R_new' (Kd.R_new' (Kd.R_new' ho0 (Kd.R_lt (by (with_reducible repeat (first | apply Kd.R_alloc | apply Kd.R_drewN | apply Kd.R_drew)); exact HO595.out))) (Kd.R_lt (by (with_reducible repeat (first | apply Kd.R_alloc | apply Kd.R_drewN | apply Kd.R_drew)); exact HO598.out))) (Kd.R_lt (by (with_reducible repeat (first | apply Kd.R_alloc | apply Kd.R_drewN | apply Kd.R_drew)); exact HO601.out))) (Kd.R_lt (by (with_reducible repeat (first | apply Kd.R_alloc | apply Kd.R_drewN | apply Kd.R_drew)); exact HO604.out))) (Kd.R_lt (by (with_reducible repeat (first | apply Kd.R_alloc | apply Kd.R_drewN | apply Kd.R_drew)); exact HO607.out))) (Kd.R_lt (by (with_reducible repeat (first | apply Kd.R_alloc | apply Kd.R_drewN | apply Kd.R_drew)); exact HO610.out))) (Kd.R_lt (by (with_reducible repeat (first | apply Kd.R_alloc | apply Kd.R_drewN | apply Kd.R_drew)); exact HO613.out))) (Kd.R_lt (by (with_reducible repeat (first | apply Kd.R_alloc | apply Kd.R_drewN | apply Kd.R_drew)); exact HO616.out))) (g := gb588) (o := .cells #[.int .i64 t584, .int .i64 t585, .int .i64 t586, .int .i64 t587] 26 (0, 0)) (by (with_reducible repeat (first | refine blk_drewN ?_ _ | refine blk_drew ?_ | refine blk_alloc ?_ _)); exact BK588.out)) (below_size (by repeat (first | (with_reducible first | exact HB.out | apply below_alloc | apply pw_below_drewN | apply below_drew1 | refine below_set ?_ GE588.out) | exact HB.out))))
                            have n9_ := Aside0.mk (blk_below (g := gb588) (o := .cells #[.int .i64 t584, .int .i64 t585, .int .i64 t586, .int .i64 t587] 26 (0, 0)) (by (with_reducible repeat (first | refine blk_drewN ?_ _ | refine blk_drew ?_ | refine blk_alloc ?_ _)); exact BK588.out) hb)
                            have n10_ := Aside0.mk (below_step (by repeat (first | (with_reducible first | exact HB.out | apply below_alloc | apply pw_below_drewN | apply below_drew1 | refine below_set ?_ GE588.out) | exact HB.out)) hb)
                            clear HO595
                            clear HO598
                            clear HO601
                            clear HO604
                            clear HO607
                            clear HO610
                            clear HO613
                            clear HO616
                            clear BK588
                            clear HB
                            have HO595 := n0_
                            have HO598 := n1_
                            have HO601 := n2_
                            have HO604 := n3_
                            have HO607 := n4_
                            have HO610 := n5_
                            have HO613 := n6_
                            have HO616 := n7_
                            have HO619 := n8_
                            have BK588 := n9_
                            have HB := n10_
                            clear n0_ n1_ n2_ n3_ n4_ n5_ n6_ n7_ n8_ n9_ n10_
                            (try clear hb)
                            (try clear hb2)
                            (try clear hk)
                            (try clear hi)
                            (try clear ho0)
                            obtain ⟨Ao76, co76, eo76⟩ := Kd.R_slice HO619.out
                            (first | subst eo76 | (injection eo76 with f1_ f2_ f3_; have f4_ := f1_.symm; have f5_ := f3_.symm; clear f1_ f2_ f3_; subst f4_; subst f5_))
                            obtain ⟨Ao77, co77, eo77⟩ := Kd.R_slice HO604.out
                            (first | subst eo77 | (injection eo77 with f1_ f2_ f3_; have f4_ := f1_.symm; have f5_ := f3_.symm; clear f1_ f2_ f3_; subst f4_; subst f5_))
                            refine hK.out _ _ ⟨(blk_cell BK588.out 0).trans rfl, (blk_cell BK588.out 1).trans rfl, (blk_cell BK588.out 2).trans rfl, (blk_cell BK588.out 3).trans rfl⟩ (fun hHeld => ?_)
                            clear hK K
                            refine norm_ (a' := ?_) ?_ ?_
                            rotate_left
                            · show Act.put _ (some 139) _ = _
                              simp only [Act.put, List.setIfInBounds_toArray, List.set_cons_zero, List.set_cons_succ, i64_w, i32_w]
                              rfl
                            refine pure_ (i := 22) (N := some 140) (v := ?_) (a' := ?_) #[true, true, true, true, true, true, true, true, true, true, true, true, true, true, true, true, true, true, true, true, true, true, true, false, false, false, false, false, false, false, false, false, false, false, false, false, false, false, false, false, false, false, false] rfl rfl (any_of HT_.out (by kernel_rfl)) (fun _ _ _ h => h) (Or.inl ⟨by rfl, ?_⟩) ?_ ?_
                            rotate_left
                            · intro w'
                              go_simp
                              with_reducible rfl
                            rotate_left
                            · simp only [Act.put, List.setIfInBounds_toArray, List.set_cons_zero, List.set_cons_succ, i64_w, i32_w]
                              rfl
                            refine pure_ (i := 23) (N := some 141) (v := ?_) (a' := ?_) #[true, true, true, true, true, true, true, true, true, true, true, true, true, true, true, true, true, true, true, true, true, true, true, true, false, false, false, false, false, false, false, false, false, false, false, false, false, false, false, false, false, false, false] rfl rfl (any_of HT_.out (by kernel_rfl)) (fun _ _ _ h => h) (Or.inl ⟨by rfl, ?_⟩) ?_ ?_
                            rotate_left
                            · intro w'
                              go_simp
                              with_reducible rfl
                            rotate_left
                            · simp only [Act.put, List.setIfInBounds_toArray, List.set_cons_zero, List.set_cons_succ, i64_w, i32_w]
                              rfl
                            refine pure_ (i := 24) (N := some 142) (v := ?_) (a' := ?_) #[true, true, true, true, true, true, true, true, true, true, true, true, true, true, true, true, true, true, true, true, true, true, true, true, true, false, false, false, false, false, false, false, false, false, false, false, false, false, false, false, false, false, false] rfl rfl (any_of HT_.out (by kernel_rfl)) (fun _ _ _ h => h) (Or.inl ⟨by rfl, ?_⟩) ?_ ?_
                            rotate_left
                            · intro w'
                              go_simp
                              with_reducible rfl
                            rotate_left
                            · simp only [Act.put, List.setIfInBounds_toArray, List.set_cons_zero, List.set_cons_succ, i64_w, i32_w]
                              rfl
                            refine pure_ (i := 25) (N := some 143) (v := ?_) (a' := ?_) #[true, true, true, true, true, true, true, true, true, true, true, true, true, true, true, true, true, true, true, true, true, true, true, true, true, true, false, false, false, false, false, false, false, false, false, false, false, false, false, false, false, false, false] rfl rfl (any_of HT_.out (by kernel_rfl)) (fun _ _ _ h => h) (Or.inl ⟨by rfl, ?_⟩) ?_ ?_
                            rotate_left
                            · intro w'
                              go_simp
                              with_reducible rfl
                            rotate_left
                            · simp only [Act.put, List.setIfInBounds_toArray, List.set_cons_zero, List.set_cons_succ, i64_w, i32_w]
                              rfl
                            refine pure_ (i := 26) (N := some 144) (v := ?_) (a' := ?_) #[true, true, true, true, true, true, true, true, true, true, true, true, true, true, true, true, true, true, true, true, true, true, true, true, true, true, true, false, false, false, false, false, false, false, false, false, false, false, false, false, false, false, false] rfl rfl (any_of HT_.out (by kernel_rfl)) (fun _ _ _ h => h) (Or.inl ⟨by rfl, ?_⟩) ?_ ?_
                            rotate_left
                            · intro w'
                              go_simp
                              with_reducible rfl
                            rotate_left
                            · simp only [Act.put, List.setIfInBounds_toArray, List.set_cons_zero, List.set_cons_succ, i64_w, i32_w]
                              rfl
                            refine pure_ (i := 27) (N := some 145) (v := ?_) (a' := ?_) #[true, true, true, true, true, true, true, true, true, true, true, true, true, true, true, true, true, true, true, true, true, true, true, true, true, true, true, true, false, false, false, false, false, false, false, false, false, false, false, false, false, false, false] rfl rfl (any_of HT_.out (by kernel_rfl)) (fun _ _ _ h => h) (Or.inl ⟨by rfl, ?_⟩) ?_ ?_
                            rotate_left
                            · intro w'
                              go_simp
                              with_reducible rfl
                            rotate_left
                            · simp only [Act.put, List.setIfInBounds_toArray, List.set_cons_zero, List.set_cons_succ, i64_w, i32_w]
                              rfl
                            refine one_ (i := 28) (N := some 146) #[true, true, true, true, true, true, true, true, true, true, true, true, true, true, true, true, true, true, true, true, true, true, true, true, true, true, true, true, true, false, false, false, false, false, false, false, false, false, false, false, false, false, false] rfl rfl (one_of HT_.out (by kernel_rfl)) (by decide) (fun K hK => ?_)
                            refine goes_ Try.func17 (by kernel_rfl) rfl #[.slice A0 l0.length c0, .slice Ao77 y602.length co77] (by rfl) rfl rfl (by (try simp only [List.map_toArray, List.map_cons, List.map_nil]); first | done | rfl | (simp only [List.length_drop, List.length_take]; rfl)) ?_
                            with_reducible refine (region_Both.calls _ _ l0 _ _ y602 t620 _ ?side1 ?side2 ?side3 ?side4 A46.out).mono ?_
                            (case side1 => repeat (first | exact (Kd.C_below HR0.out HB.out) | (with_reducible refine Kd.C_alloc ?_ _) | (with_reducible refine Kd.C_drewN ?_ _) | (with_reducible refine Kd.C_drew ?_)))
                            (case side2 => exact HC0.out)
                            (case side3 => repeat (first | exact (Kd.R_reads' HO604.out).2.2 | (with_reducible refine Kd.C_alloc ?_ _) | (with_reducible refine Kd.C_drewN ?_ _) | (with_reducible refine Kd.C_drew ?_)))
                            (case side4 => exact (Kd.R_reads' HO604.out).2.1)
                            rintro e w78 ⟨v621, rfl, ho0, hb⟩
                            refine ⟨_, rfl, ?_⟩
                            have n0_ := Aside0.mk (Kd.R_elder' (by (with_reducible repeat (first | apply Kd.R_alloc | apply Kd.R_drewN | apply Kd.R_drew)); exact HO595.out) (Kd.R_base ho0) hb)
                            have n1_ := Aside0.mk (Kd.R_elder' (by (with_reducible repeat (first | apply Kd.R_alloc | apply Kd.R_drewN | apply Kd.R_drew)); exact HO598.out) (Kd.R_base ho0) hb)
                            have n2_ := Aside0.mk (Kd.R_elder' (by (with_reducible repeat (first | apply Kd.R_alloc | apply Kd.R_drewN | apply Kd.R_drew)); exact HO601.out) (Kd.R_base ho0) hb)
                            have n3_ := Aside0.mk (Kd.R_elder' (by (with_reducible repeat (first | apply Kd.R_alloc | apply Kd.R_drewN | apply Kd.R_drew)); exact HO604.out) (Kd.R_base ho0) hb)
                            have n4_ := Aside0.mk (Kd.R_elder' (by (with_reducible repeat (first | apply Kd.R_alloc | apply Kd.R_drewN | apply Kd.R_drew)); exact HO607.out) (Kd.R_base ho0) hb)
                            have n5_ := Aside0.mk (Kd.R_elder' (by (with_reducible repeat (first | apply Kd.R_alloc | apply Kd.R_drewN | apply Kd.R_drew)); exact HO610.out) (Kd.R_base ho0) hb)
                            have n6_ := Aside0.mk (Kd.R_elder' (by (with_reducible repeat (first | apply Kd.R_alloc | apply Kd.R_drewN | apply Kd.R_drew)); exact HO613.out) (Kd.R_base ho0) hb)
                            have n7_ := Aside0.mk (Kd.R_elder' (by (with_reducible repeat (first | apply Kd.R_alloc | apply Kd.R_drewN | apply Kd.R_drew)); exact HO616.out) (Kd.R_base ho0) hb)
                            have n8_ := Aside0.mk (Kd.R_elder' (by (with_reducible repeat (first | apply Kd.R_alloc | apply Kd.R_drewN | apply Kd.R_drew)); exact HO619.out) (Kd.R_base ho0) hb)
                            have n9_ := Aside0.mk (Kd.R_lower (Kd.R_newB (Kd.R_new' (Kd.R_new' (Kd.R_new' (Kd.R_new' (Kd.R_new' (Kd.R_new' (Kd.R_new' (Kd.R_new' (Kd.R_new' ho0 (Kd.R_lt (by (with_reducible repeat (first | apply Kd.R_alloc | apply Kd.R_drewN | apply Kd.R_drew)); exact HO595.out))) (Kd.R_lt (by (with_reducible repeat (first | apply Kd.R_alloc | apply Kd.R_drewN | apply Kd.R_drew)); exact HO598.out))) (Kd.R_lt (by (with_reducible repeat (first | apply Kd.R_alloc | apply Kd.R_drewN | apply Kd.R_drew)); exact HO601.out))) (Kd.R_lt (by (with_reducible repeat (first | apply Kd.R_alloc | apply Kd.R_drewN | apply Kd.R_drew)); exact HO604.out))) (Kd.R_lt (by (with_reducible repeat (first | apply Kd.R_alloc | apply Kd.R_drewN | apply Kd.R_drew)); exact HO607.out))) (Kd.R_lt (by (with_reducible repeat (first | apply Kd.R_alloc | apply Kd.R_drewN | apply Kd.R_drew)); exact HO610.out))) (Kd.R_lt (by (with_reducible repeat (first | apply Kd.R_alloc | apply Kd.R_drewN | apply Kd.R_drew)); exact HO613.out))) (Kd.R_lt (by (with_reducible repeat (first | apply Kd.R_alloc | apply Kd.R_drewN | apply Kd.R_drew)); exact HO616.out))) (Kd.R_lt (by (with_reducible repeat (first | apply Kd.R_alloc | apply Kd.R_drewN | apply Kd.R_drew)); exact HO619.out))) (g := gb588) (o := .cells #[.int .i64 t584, .int .i64 t585, .int .i64 t586, .int .i64 t587] 26 (0, 0)) (by (with_reducible repeat (first | refine blk_drewN ?_ _ | refine blk_drew ?_ | refine blk_alloc ?_ _)); exact BK588.out)) (below_size (by repeat (first | (with_reducible first | exact HB.out | apply below_alloc | apply pw_below_drewN | apply below_drew1 | refine below_set ?_ GE588.out) | exact HB.out))))
                            have n10_ := Aside0.mk (blk_below (g := gb588) (o := .cells #[.int .i64 t584, .int .i64 t585, .int .i64 t586, .int .i64 t587] 26 (0, 0)) (by (with_reducible repeat (first | refine blk_drewN ?_ _ | refine blk_drew ?_ | refine blk_alloc ?_ _)); exact BK588.out) hb)
                            have n11_ := Aside0.mk (below_step (by repeat (first | (with_reducible first | exact HB.out | apply below_alloc | apply pw_below_drewN | apply below_drew1 | refine below_set ?_ GE588.out) | exact HB.out)) hb)
                            clear HO595
                            clear HO598
                            clear HO601
                            clear HO604
                            clear HO607
                            clear HO610
                            clear HO613
                            clear HO616
                            clear HO619
                            clear BK588
                            clear HB
                            have HO595 := n0_
                            have HO598 := n1_
                            have HO601 := n2_
                            have HO604 := n3_
                            have HO607 := n4_
                            have HO610 := n5_
                            have HO613 := n6_
                            have HO616 := n7_
                            have HO619 := n8_
                            have HO622 := n9_
                            have BK588 := n10_
                            have HB := n11_
                            clear n0_ n1_ n2_ n3_ n4_ n5_ n6_ n7_ n8_ n9_ n10_ n11_
                            (try clear hb)
                            (try clear hb2)
                            (try clear hk)
                            (try clear hi)
                            (try clear ho0)
                            obtain ⟨Ao79, co79, eo79⟩ := Kd.R_slice HO622.out
                            (first | subst eo79 | (injection eo79 with f1_ f2_ f3_; have f4_ := f1_.symm; have f5_ := f3_.symm; clear f1_ f2_ f3_; subst f4_; subst f5_))
                            refine hK.out _ _ ⟨(blk_cell BK588.out 0).trans rfl, (blk_cell BK588.out 1).trans rfl, (blk_cell BK588.out 2).trans rfl, (blk_cell BK588.out 3).trans rfl⟩ (fun hHeld => ?_)
                            clear hK K
                            refine norm_ (a' := ?_) ?_ ?_
                            rotate_left
                            · show Act.put _ (some 146) _ = _
                              simp only [Act.put, List.setIfInBounds_toArray, List.set_cons_zero, List.set_cons_succ, i64_w, i32_w]
                              rfl
                            refine pure_ (i := 29) (N := some 147) (v := ?_) (a' := ?_) #[true, true, true, true, true, true, true, true, true, true, true, true, true, true, true, true, true, true, true, true, true, true, true, true, true, true, true, true, true, true, false, false, false, false, false, false, false, false, false, false, false, false, false] rfl rfl (any_of HT_.out (by kernel_rfl)) (fun _ _ _ h => h) (Or.inl ⟨by rfl, ?_⟩) ?_ ?_
                            rotate_left
                            · intro w'
                              go_simp
                              with_reducible rfl
                            rotate_left
                            · simp only [Act.put, List.setIfInBounds_toArray, List.set_cons_zero, List.set_cons_succ, i64_w, i32_w]
                              rfl
                            refine pure_ (i := 30) (N := some 148) (v := ?_) (a' := ?_) #[true, true, true, true, true, true, true, true, true, true, true, true, true, true, true, true, true, true, true, true, true, true, true, true, true, true, true, true, true, true, true, false, false, false, false, false, false, false, false, false, false, false, false] rfl rfl (any_of HT_.out (by kernel_rfl)) (fun _ _ _ h => h) (Or.inl ⟨by rfl, ?_⟩) ?_ ?_
                            rotate_left
                            · intro w'
                              go_simp
                              with_reducible rfl
                            rotate_left
                            · simp only [Act.put, List.setIfInBounds_toArray, List.set_cons_zero, List.set_cons_succ, i64_w, i32_w]
                              rfl
                            refine pure_ (i := 31) (N := some 149) (v := ?_) (a' := ?_) #[true, true, true, true, true, true, true, true, true, true, true, true, true, true, true, true, true, true, true, true, true, true, true, true, true, true, true, true, true, true, true, true, false, false, false, false, false, false, false, false, false, false, false] rfl rfl (any_of HT_.out (by kernel_rfl)) (fun _ _ _ h => h) (Or.inl ⟨by rfl, ?_⟩) ?_ ?_
                            rotate_left
                            · intro w'
                              go_simp
                              with_reducible rfl
                            rotate_left
                            · simp only [Act.put, List.setIfInBounds_toArray, List.set_cons_zero, List.set_cons_succ, i64_w, i32_w]
                              rfl
                            refine pure_ (i := 32) (N := some 150) (v := ?_) (a' := ?_) #[true, true, true, true, true, true, true, true, true, true, true, true, true, true, true, true, true, true, true, true, true, true, true, true, true, true, true, true, true, true, true, true, true, false, false, false, false, false, false, false, false, false, false] rfl rfl (any_of HT_.out (by kernel_rfl)) (fun _ _ _ h => h) (Or.inl ⟨by rfl, ?_⟩) ?_ ?_
                            rotate_left
                            · intro w'
                              go_simp
                              with_reducible rfl
                            rotate_left
                            · simp only [Act.put, List.setIfInBounds_toArray, List.set_cons_zero, List.set_cons_succ, i64_w, i32_w]
                              rfl
                            refine pure_ (i := 33) (N := some 151) (v := ?_) (a' := ?_) #[true, true, true, true, true, true, true, true, true, true, true, true, true, true, true, true, true, true, true, true, true, true, true, true, true, true, true, true, true, true, true, true, true, true, false, false, false, false, false, false, false, false, false] rfl rfl (any_of HT_.out (by kernel_rfl)) (fun _ _ _ h => h) (Or.inl ⟨by rfl, ?_⟩) ?_ ?_
                            rotate_left
                            · intro w'
                              go_simp
                              with_reducible rfl
                            rotate_left
                            · simp only [Act.put, List.setIfInBounds_toArray, List.set_cons_zero, List.set_cons_succ, i64_w, i32_w]
                              rfl
                            refine pure_ (i := 35) (N := some 153) (v := ?_) (a' := ?_) #[true, true, true, true, true, true, true, true, true, true, true, true, true, true, true, true, true, true, true, true, true, true, true, true, true, true, true, true, true, true, true, true, true, true, false, true, false, false, false, false, false, false, false] rfl rfl (any_of HT_.out (by kernel_rfl)) (fun _ _ _ h => h) (Or.inl ⟨by rfl, ?_⟩) ?_ ?_
                            rotate_left
                            · intro w'
                              go_simp
                              with_reducible rfl
                            rotate_left
                            · simp only [Act.put, List.setIfInBounds_toArray, List.set_cons_zero, List.set_cons_succ, i64_w, i32_w]
                              rfl
                            refine pure_ (i := 37) (N := some 155) (v := ?_) (a' := ?_) #[true, true, true, true, true, true, true, true, true, true, true, true, true, true, true, true, true, true, true, true, true, true, true, true, true, true, true, true, true, true, true, true, true, true, false, true, false, true, false, false, false, false, false] rfl rfl (any_of HT_.out (by kernel_rfl)) (fun _ _ _ h => h) (Or.inl ⟨by rfl, ?_⟩) ?_ ?_
                            rotate_left
                            · intro w'
                              go_simp
                              with_reducible rfl
                            rotate_left
                            · simp only [Act.put, List.setIfInBounds_toArray, List.set_cons_zero, List.set_cons_succ, i64_w, i32_w]
                              rfl
                            refine take_ (i := 36) (N := some 154) (v := ?_) (a' := ?_) #[true, true, true, true, true, true, true, true, true, true, true, true, true, true, true, true, true, true, true, true, true, true, true, true, true, true, true, true, true, true, true, true, true, true, false, true, true, true, false, false, false, false, false] rfl rfl (take_ofW HT_.out HW_.out (by kernel_rfl)) (fun _ _ _ h => h) (Or.inl ⟨by rfl, ?_⟩) hHeld ?_ ?_
                            rotate_left
                            · rintro w' ⟨s0, s1, s2, s3⟩
                              go_simp
                              with_reducible rfl
                            rotate_left
                            · simp only [Act.put, List.setIfInBounds_toArray, List.set_cons_zero, List.set_cons_succ, i64_w, i32_w]
                              rfl
                            refine take_ (i := 38) (N := some 156) (v := ?_) (a' := ?_) #[true, true, true, true, true, true, true, true, true, true, true, true, true, true, true, true, true, true, true, true, true, true, true, true, true, true, true, true, true, true, true, true, true, true, false, true, true, true, true, false, false, false, false] rfl rfl (take_ofW HT_.out HW_.out (by kernel_rfl)) (fun _ _ _ h => h) (Or.inl ⟨by rfl, ?_⟩) hHeld ?_ ?_
                            rotate_left
                            · rintro w' ⟨s0, s1, s2, s3⟩
                              go_simp
                              with_reducible rfl
                            rotate_left
                            · simp only [Act.put, List.setIfInBounds_toArray, List.set_cons_zero, List.set_cons_succ, i64_w, i32_w]
                              rfl
                            refine pure_ (i := 39) (N := some 157) (v := ?_) (a' := ?_) #[true, true, true, true, true, true, true, true, true, true, true, true, true, true, true, true, true, true, true, true, true, true, true, true, true, true, true, true, true, true, true, true, true, true, false, true, true, true, true, true, false, false, false] rfl rfl (any_of HT_.out (by kernel_rfl)) (fun _ _ _ h => h) (Or.inl ⟨by rfl, ?_⟩) ?_ ?_
                            rotate_left
                            · intro w'
                              go_simp
                              with_reducible rfl
                            rotate_left
                            · simp only [Act.put, List.setIfInBounds_toArray, List.set_cons_zero, List.set_cons_succ, i64_w, i32_w]
                              rfl
                            refine one_ (i := 34) (N := some 152) #[true, true, true, true, true, true, true, true, true, true, true, true, true, true, true, true, true, true, true, true, true, true, true, true, true, true, true, true, true, true, true, true, true, true, true, true, true, true, true, true, false, false, false] rfl rfl (one_of HT_.out (by kernel_rfl)) (by decide) (fun K hK => ?_)
                            refine goes_ Try.func13 (by kernel_rfl) rfl #[.slice A0 l0.length c0] (by rfl) rfl rfl (by (try simp only [List.map_toArray, List.map_cons, List.map_nil]); first | done | rfl | (simp only [List.length_drop, List.length_take]; rfl)) ?_
                            with_reducible refine (region_Area.calls kj31 _ _ l0 t623 _ ?side1 ?side2 A48.out).mono ?_
                            (case side1 => repeat (first | exact (Kd.C_below HR0.out HB.out) | (with_reducible refine Kd.C_alloc ?_ _) | (with_reducible refine Kd.C_drewN ?_ _) | (with_reducible refine Kd.C_drew ?_)))
                            (case side2 => exact HC0.out)
                            rintro e w80 ⟨rfl, hb⟩
                            refine ⟨_, rfl, ?_⟩
                            have n0_ := Aside0.mk (Kd.R_below (by (with_reducible repeat (first | apply Kd.R_alloc | apply Kd.R_drewN | apply Kd.R_drew)); exact HO595.out) hb)
                            have n1_ := Aside0.mk (Kd.R_below (by (with_reducible repeat (first | apply Kd.R_alloc | apply Kd.R_drewN | apply Kd.R_drew)); exact HO598.out) hb)
                            have n2_ := Aside0.mk (Kd.R_below (by (with_reducible repeat (first | apply Kd.R_alloc | apply Kd.R_drewN | apply Kd.R_drew)); exact HO601.out) hb)
                            have n3_ := Aside0.mk (Kd.R_below (by (with_reducible repeat (first | apply Kd.R_alloc | apply Kd.R_drewN | apply Kd.R_drew)); exact HO604.out) hb)
                            have n4_ := Aside0.mk (Kd.R_below (by (with_reducible repeat (first | apply Kd.R_alloc | apply Kd.R_drewN | apply Kd.R_drew)); exact HO607.out) hb)
                            have n5_ := Aside0.mk (Kd.R_below (by (with_reducible repeat (first | apply Kd.R_alloc | apply Kd.R_drewN | apply Kd.R_drew)); exact HO610.out) hb)
                            have n6_ := Aside0.mk (Kd.R_below (by (with_reducible repeat (first | apply Kd.R_alloc | apply Kd.R_drewN | apply Kd.R_drew)); exact HO613.out) hb)
                            have n7_ := Aside0.mk (Kd.R_below (by (with_reducible repeat (first | apply Kd.R_alloc | apply Kd.R_drewN | apply Kd.R_drew)); exact HO616.out) hb)
                            have n8_ := Aside0.mk (Kd.R_below (by (with_reducible repeat (first | apply Kd.R_alloc | apply Kd.R_drewN | apply Kd.R_drew)); exact HO619.out) hb)
                            have n9_ := Aside0.mk (Kd.R_below (by (with_reducible repeat (first | apply Kd.R_alloc | apply Kd.R_drewN | apply Kd.R_drew)); exact HO622.out) hb)
                            have n10_ := Aside0.mk (blk_below (g := gb588) (o := .cells #[.int .i64 t584, .int .i64 t585, .int .i64 t586, .int .i64 t587] 26 (0, 0)) (by (with_reducible repeat (first | refine blk_drewN ?_ _ | refine blk_drew ?_ | refine blk_alloc ?_ _)); exact BK588.out) hb)
                            have n11_ := Aside0.mk (below_step (by repeat (first | (with_reducible first | exact HB.out | apply below_alloc | apply pw_below_drewN | apply below_drew1 | refine below_set ?_ GE588.out) | exact HB.out)) hb)
                            clear HO595
                            clear HO598
                            clear HO601
                            clear HO604
                            clear HO607
                            clear HO610
                            clear HO613
                            clear HO616
                            clear HO619
                            clear HO622
                            clear BK588
                            clear HB
                            have HO595 := n0_
                            have HO598 := n1_
                            have HO601 := n2_
                            have HO604 := n3_
                            have HO607 := n4_
                            have HO610 := n5_
                            have HO613 := n6_
                            have HO616 := n7_
                            have HO619 := n8_
                            have HO622 := n9_
                            have BK588 := n10_
                            have HB := n11_
                            clear n0_ n1_ n2_ n3_ n4_ n5_ n6_ n7_ n8_ n9_ n10_ n11_
                            (try clear hb)
                            (try clear hb2)
                            (try clear hk)
                            (try clear hi)
                            refine hK.out _ _ ⟨(blk_cell BK588.out 0).trans rfl, (blk_cell BK588.out 1).trans rfl, (blk_cell BK588.out 2).trans rfl, (blk_cell BK588.out 3).trans rfl⟩ (fun hHeld => ?_)
                            clear hK K
                            refine norm_ (a' := ?_) ?_ ?_
                            rotate_left
                            · show Act.put _ (some 152) _ = _
                              simp only [Act.put, List.setIfInBounds_toArray, List.set_cons_zero, List.set_cons_succ, i64_w, i32_w]
                              rfl
                            refine pure_ (i := 40) (N := some 158) (v := ?_) (a' := ?_) #[true, true, true, true, true, true, true, true, true, true, true, true, true, true, true, true, true, true, true, true, true, true, true, true, true, true, true, true, true, true, true, true, true, true, true, true, true, true, true, true, true, false, false] rfl rfl (any_of HT_.out (by kernel_rfl)) (fun _ _ _ h => h) (Or.inl ⟨by rfl, ?_⟩) ?_ ?_
                            rotate_left
                            · intro w'
                              go_simp
                              with_reducible rfl
                            rotate_left
                            · simp only [Act.put, List.setIfInBounds_toArray, List.set_cons_zero, List.set_cons_succ, i64_w, i32_w]
                              rfl
                            refine pure_ (i := 41) (N := some 159) (v := ?_) (a' := ?_) #[true, true, true, true, true, true, true, true, true, true, true, true, true, true, true, true, true, true, true, true, true, true, true, true, true, true, true, true, true, true, true, true, true, true, true, true, true, true, true, true, true, true, false] rfl rfl (any_of HT_.out (by kernel_rfl)) (fun _ _ _ h => h) (Or.inl ⟨by rfl, ?_⟩) ?_ ?_
                            rotate_left
                            · intro w'
                              go_simp
                              with_reducible rfl
                            rotate_left
                            · simp only [Act.put, List.setIfInBounds_toArray, List.set_cons_zero, List.set_cons_succ, i64_w, i32_w]
                              rfl
                            refine pure_ (i := 42) (N := some 6) (v := ?_) (a' := ?_) #[true, true, true, true, true, true, true, true, true, true, true, true, true, true, true, true, true, true, true, true, true, true, true, true, true, true, true, true, true, true, true, true, true, true, true, true, true, true, true, true, true, true, true] rfl rfl (any_of HT_.out (by kernel_rfl)) (fun _ _ _ h => h) (Or.inl ⟨by rfl, ?_⟩) ?_ ?_
                            rotate_left
                            · intro w'
                              go_simp
                              with_reducible rfl
                            rotate_left
                            · simp only [Act.put, List.setIfInBounds_toArray, List.set_cons_zero, List.set_cons_succ, i64_w, i32_w]
                              rfl
                            refine done_ (done_of HT_.out (by kernel_rfl)) ?_
                            try go_wp2
                            go_ret
                            exact ⟨by first | rfl | (simp [errW_none, errW_some] <;> rfl) | (simp [*, errW_none, errW_some] <;> rfl), by repeat (first | (with_reducible first | exact HB.out | apply below_alloc | apply pw_below_drewN | apply below_drew1 | refine below_set ?_ GE588.out) | exact HB.out)⟩
                          · rw [if_neg c47] at H
                            have c47b0 : decide (0 < (t620.length : Int)) = false := decide_eq_false c47
                            have c47b1 : decide (0 < t620.length) = false := decide_eq_false (by omega)
                            clear c47
                            rw [HRT.out] at H
                            exact absurd (Option.some.inj H) (by decide)
                        · rw [if_neg c45] at H
                          have c45b0 : decide (0 < (t617.length : Int)) = false := decide_eq_false c45
                          have c45b1 : decide (0 < t617.length) = false := decide_eq_false (by omega)
                          clear c45
                          rw [HRT.out] at H
                          exact absurd (Option.some.inj H) (by decide)
                      · rw [if_neg c43] at H
                        have c43b0 : decide (0 < (t614.length : Int)) = false := decide_eq_false c43
                        have c43b1 : decide (0 < t614.length) = false := decide_eq_false (by omega)
                        clear c43
                        rw [HRT.out] at H
                        exact absurd (Option.some.inj H) (by decide)
                    · rw [if_neg c41] at H
                      have c41b0 : decide (0 < (t611.length : Int)) = false := decide_eq_false c41
                      have c41b1 : decide (0 < t611.length) = false := decide_eq_false (by omega)
                      clear c41
                      rw [HRT.out] at H
                      exact absurd (Option.some.inj H) (by decide)
                  · rw [if_neg c39] at H
                    have c39b0 : ((t608.length : Int) == 0) = false := beq_eq_false_iff_ne.mpr c39
                    have c39b1 : ((t608.length : Int) != 0) = true := bne_iff_ne.mpr c39
                    have c39b2 : ¬ (t608 = []) := fun h_ => c39 (by rw [h_]; rfl)
                    rw [HRT.out] at H
                    exact absurd (Option.some.inj H) (by decide)
  · replace c5 := Bool.eq_false_iff.mpr c5
    subst c5
    have H1 : (some false) = some r := by rw [if_neg (show ¬ (false = true) by decide)] at H; exact H
    clear H
    have H := H1
    clear H1
    rw [HRT.out] at H
    exact absurd (Option.some.inj H) (by decide)

end Go.Proofs.Ytkobiblgbpnlaaa.X
