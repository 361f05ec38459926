/- What each Go function that these laws use answers: as a Lean function, with the proof that the machine's call comes to it. Written by a program of this session (xprint.py). -/
import Derived.Test.YtkobiblgbpnlaaaXx0
import Derived.Test.YtkobiblgbpnlaaaXx1
import Derived.Test.YtkobiblgbpnlaaaXx19
import Derived.Test.YtkobiblgbpnlaaaXx20
import Derived.Test.YtkobiblgbpnlaaaXx21
import Derived.Test.YtkobiblgbpnlaaaXx26
import Derived.Test.YtkobiblgbpnlaaaXx35
import Derived.Test.YtkobiblgbpnlaaaXx38
import Derived.Test.YtkobiblgbpnlaaaXx40
import Derived.Test.YtkobiblgbpnlaaaXx41
import Derived.Test.YtkobiblgbpnlaaaXx42
namespace Go.Proofs.Ytkobiblgbpnlaaa.X
open Go.RowKit Go.Proofs.YtkobiblgbpnlaaaW.PrintWords Go.Proofs.YtkobiblgbpnlaaaW.PrintLast Go.Proofs.YtkobiblgbpnlaaaW.PrintMore
attribute [local go_sem] max2_int min2_int max_two min_two max_three min_three max_four min_four   -- for this text's walks alone
set_option linter.unusedVariables false
set_option linter.unusedSimpArgs false

attribute [local go_sem high] eqA26
/-! ### miradorlaw15_RegionAsks: function 9 -/
def miradorlaw15_RegionAsks.f (k : Nat) (l0 : List (S26)) (a1 : Int) (a2 : Int) (a3 : Int) (a4 : Int) : Option (Bool) := (miradorlaw15_works.f k).bind fun t629 => (if t629 = true then (if (l0.length : Int) > 12 then (some t629) else ((region_Shift.f k l0 a1 a2).bind fun t630 => ((miradorref15_Shift.f k l0 a1 a2).bind fun t633 => ((miradorref15_Same.f k t630 t633).bind fun t636 => (if t636 = true then ((region_Area.f k l0).bind fun t637 => ((miradorref15_Area.f k l0).bind fun t638 => (if t637 = t638 then ((region_Has.f k l0 a3 a4).bind fun t639 => ((miradorref15_Has.f k l0 a3 a4).bind fun t640 => (if (t639 == t640) = true then ((region_Bounds.f k l0).bind fun bt641 => ((miradorref15_Bounds.f k l0).bind fun bt645 => (some (bt641.1 == bt645.1 && (bt641.2.1 == bt645.2.1 && (bt641.2.2.1 == bt645.2.2.1 && (bt641.2.2.2 == bt645.2.2.2))))))) else (some false)))) else (some false)))) else (some false)))))) else (some false))
theorem miradorlaw15_RegionAsks.mono : ∀ a0 a1 a2 a3 a4 k, LeO (miradorlaw15_RegionAsks.f k a0 a1 a2 a3 a4) (miradorlaw15_RegionAsks.f (k + 1) a0 a1 a2 a3 a4) := by
  intro a0 a1 a2 a3 a4 k
  unfold miradorlaw15_RegionAsks.f
  repeat' first
      | (with_reducible exact miradorlaw15_works.mono _)
      | (with_reducible exact miradorref15_Area.mono _ _)
      | (with_reducible exact miradorref15_Bounds.mono _ _)
      | (with_reducible exact miradorref15_Has.mono _ _ _ _)
      | (with_reducible exact miradorref15_Same.mono _ _ _)
      | (with_reducible exact miradorref15_Shift.mono _ _ _ _)
      | (with_reducible exact region_Area.mono _ _)
      | (with_reducible exact region_Bounds.mono _ _)
      | (with_reducible exact region_Has.mono _ _ _ _)
      | (with_reducible exact region_Shift.mono _ _ _ _)
      | (with_reducible exact LeO.refl _)
      | (with_reducible exact LeO.none _)
      | (with_reducible refine LeO.ite ?_ ?_)
      | (with_reducible refine LeO.bind ?_ (fun _ => ?_))
      | exact miradorlaw15_works.mono _
      | exact miradorref15_Area.mono _ _
      | exact miradorref15_Bounds.mono _ _
      | exact miradorref15_Has.mono _ _ _ _
      | exact miradorref15_Same.mono _ _ _
      | exact miradorref15_Shift.mono _ _ _ _
      | exact region_Area.mono _ _
      | exact region_Bounds.mono _ _
      | exact region_Has.mono _ _ _ _
      | exact region_Shift.mono _ _ _ _
      | exact LeO.none _
      | refine LeO.ite ?_ ?_
      | refine LeO.bind ?_ (fun _ => ?_)
set_option maxHeartbeats 8000000 in
set_option maxRecDepth 100000 in
theorem miradorlaw15_RegionAsks.calls1 (k : Nat) (A0 : Option Addr) (c0 : Nat) (l0 : List (S26)) (a1 : Int) (a2 : Int) (a3 : Int) (a4 : Int) (r : Bool) (w : World) (hr0 : Kd.C k26 w A0 l0.length l0) (hc0 : l0.length ≤ c0) (hr_ : r = true) (h : miradorlaw15_RegionAsks.f k l0 a1 a2 a3 a4 = some r) :
    Calls Try.prog 9 #[.slice A0 l0.length c0, .int .i64 a1, .int .i64 a2, .int .i64 a3, .int .i64 a4] w fun e w' => e = .returned (.bool r) ∧ Below w.heap.size w w' := by
  have HR0 := Aside0.mk hr0
  have HC0 := Aside0.mk hc0
  clear hr0 hc0
  have HB := Aside0.mk (Below.refl w.heap.size w)
  have H : ((miradorlaw15_works.f k).bind fun t629 => (if t629 = true then (if (l0.length : Int) > 12 then (some t629) else ((region_Shift.f k l0 a1 a2).bind fun t630 => ((miradorref15_Shift.f k l0 a1 a2).bind fun t633 => ((miradorref15_Same.f k t630 t633).bind fun t636 => (if t636 = true then ((region_Area.f k l0).bind fun t637 => ((miradorref15_Area.f k l0).bind fun t638 => (if t637 = t638 then ((region_Has.f k l0 a3 a4).bind fun t639 => ((miradorref15_Has.f k l0 a3 a4).bind fun t640 => (if (t639 == t640) = true then ((region_Bounds.f k l0).bind fun bt641 => ((miradorref15_Bounds.f k l0).bind fun bt645 => (some (bt641.1 == bt645.1 && (bt641.2.1 == bt645.2.1 && (bt641.2.2.1 == bt645.2.2.1 && (bt641.2.2.2 == bt645.2.2.2))))))) else (some false)))) else (some false)))) else (some false)))))) else (some false))) = some r := h
  clear h
  have HRT := Aside0.mk hr_
  clear hr_
  replace H := Option.bind_eq_some_iff.mp H
  obtain ⟨t629, A60, H⟩ := H
  replace H : (if t629 = true then (if (l0.length : Int) > 12 then (some t629) else ((region_Shift.f k l0 a1 a2).bind fun t630 => ((miradorref15_Shift.f k l0 a1 a2).bind fun t633 => ((miradorref15_Same.f k t630 t633).bind fun t636 => (if t636 = true then ((region_Area.f k l0).bind fun t637 => ((miradorref15_Area.f k l0).bind fun t638 => (if t637 = t638 then ((region_Has.f k l0 a3 a4).bind fun t639 => ((miradorref15_Has.f k l0 a3 a4).bind fun t640 => (if (t639 == t640) = true then ((region_Bounds.f k l0).bind fun bt641 => ((miradorref15_Bounds.f k l0).bind fun bt645 => (some (bt641.1 == bt645.1 && (bt641.2.1 == bt645.2.1 && (bt641.2.2.1 == bt645.2.2.1 && (bt641.2.2.2 == bt645.2.2.2))))))) else (some false)))) else (some false)))) else (some false)))))) else (some false)) = some r := H
  have A6 := Aside0.mk A60
  clear A60
  by_cases c7 : t629 = true
  · subst c7
    have H1 : (if (l0.length : Int) > 12 then (some true) else ((region_Shift.f k l0 a1 a2).bind fun t630 => ((miradorref15_Shift.f k l0 a1 a2).bind fun t633 => ((miradorref15_Same.f k t630 t633).bind fun t636 => (if t636 = true then ((region_Area.f k l0).bind fun t637 => ((miradorref15_Area.f k l0).bind fun t638 => (if t637 = t638 then ((region_Has.f k l0 a3 a4).bind fun t639 => ((miradorref15_Has.f k l0 a3 a4).bind fun t640 => (if (t639 == t640) = true then ((region_Bounds.f k l0).bind fun bt641 => ((miradorref15_Bounds.f k l0).bind fun bt645 => (some (bt641.1 == bt645.1 && (bt641.2.1 == bt645.2.1 && (bt641.2.2.1 == bt645.2.2.1 && (bt641.2.2.2 == bt645.2.2.2))))))) else (some false)))) else (some false)))) else (some false)))))) = some r := by rw [if_pos rfl] at H; exact H
    clear H
    have H := H1
    clear H1
    by_cases c8 : (l0.length : Int) > 12
    · rw [if_pos c8] at H
      have c8b0 : decide (12 < (l0.length : Int)) = true := decide_eq_true c8
      have c8b1 : decide (12 < l0.length) = true := decide_eq_true (by omega)
      clear c8
      obtain rfl := Option.some.inj H
      go_enter Try.func9, Try.ntmps9
      go_wp2_with (first | ((with_reducible refine gate_callee (f := 10) rfl ?_); refine goesL_ (some 13) rfl rfl Try.func10 (by kernel_rfl) rfl #[] rfl (by (try simp only [List.map_toArray, List.map_cons, List.map_nil]); first | done | rfl | (simp only [List.length_drop, List.length_take]; rfl)) ?_; (with_reducible refine (miradorlaw15_works.calls k  true _ A6.out).mono ?_); rintro e w9 ⟨rfl, hb⟩; refine ⟨_, rfl, ?_⟩; have n0_ := Aside0.mk (below_step (by repeat (first | (with_reducible first | exact HB.out | apply below_alloc | apply pw_below_drewN | apply below_drew1) | exact HB.out)) hb); clear HB; have HB := n0_; clear n0_; (try clear hb); (try clear hb2); (try clear hk); (try clear hi)))
      go_ret
      exact ⟨by first | rfl | (simp [errW_none, errW_some] <;> rfl) | (simp [*, errW_none, errW_some] <;> rfl), by repeat (first | (with_reducible first | exact HB.out | apply below_alloc | apply pw_below_drewN | apply below_drew1) | exact HB.out)⟩
    · rw [if_neg c8] at H
      have c8b0 : decide (12 < (l0.length : Int)) = false := decide_eq_false c8
      have c8b1 : decide (12 < l0.length) = false := decide_eq_false (by omega)
      clear c8
      replace H := Option.bind_eq_some_iff.mp H
      obtain ⟨t630, A100, H⟩ := H
      replace H : ((miradorref15_Shift.f k l0 a1 a2).bind fun t633 => ((miradorref15_Same.f k t630 t633).bind fun t636 => (if t636 = true then ((region_Area.f k l0).bind fun t637 => ((miradorref15_Area.f k l0).bind fun t638 => (if t637 = t638 then ((region_Has.f k l0 a3 a4).bind fun t639 => ((miradorref15_Has.f k l0 a3 a4).bind fun t640 => (if (t639 == t640) = true then ((region_Bounds.f k l0).bind fun bt641 => ((miradorref15_Bounds.f k l0).bind fun bt645 => (some (bt641.1 == bt645.1 && (bt641.2.1 == bt645.2.1 && (bt641.2.2.1 == bt645.2.2.1 && (bt641.2.2.2 == bt645.2.2.2))))))) else (some false)))) else (some false)))) else (some false)))) = some r := H
      have A10 := Aside0.mk A100
      clear A100
      replace H := Option.bind_eq_some_iff.mp H
      obtain ⟨t633, A110, H⟩ := H
      replace H : ((miradorref15_Same.f k t630 t633).bind fun t636 => (if t636 = true then ((region_Area.f k l0).bind fun t637 => ((miradorref15_Area.f k l0).bind fun t638 => (if t637 = t638 then ((region_Has.f k l0 a3 a4).bind fun t639 => ((miradorref15_Has.f k l0 a3 a4).bind fun t640 => (if (t639 == t640) = true then ((region_Bounds.f k l0).bind fun bt641 => ((miradorref15_Bounds.f k l0).bind fun bt645 => (some (bt641.1 == bt645.1 && (bt641.2.1 == bt645.2.1 && (bt641.2.2.1 == bt645.2.2.1 && (bt641.2.2.2 == bt645.2.2.2))))))) else (some false)))) else (some false)))) else (some false))) = some r := H
      have A11 := Aside0.mk A110
      clear A110
      replace H := Option.bind_eq_some_iff.mp H
      obtain ⟨t636, A120, H⟩ := H
      replace H : (if t636 = true then ((region_Area.f k l0).bind fun t637 => ((miradorref15_Area.f k l0).bind fun t638 => (if t637 = t638 then ((region_Has.f k l0 a3 a4).bind fun t639 => ((miradorref15_Has.f k l0 a3 a4).bind fun t640 => (if (t639 == t640) = true then ((region_Bounds.f k l0).bind fun bt641 => ((miradorref15_Bounds.f k l0).bind fun bt645 => (some (bt641.1 == bt645.1 && (bt641.2.1 == bt645.2.1 && (bt641.2.2.1 == bt645.2.2.1 && (bt641.2.2.2 == bt645.2.2.2))))))) else (some false)))) else (some false)))) else (some false)) = some r := H
      have A12 := Aside0.mk A120
      clear A120
      by_cases c13 : t636 = true
      · subst c13
        have H1 : ((region_Area.f k l0).bind fun t637 => ((miradorref15_Area.f k l0).bind fun t638 => (if t637 = t638 then ((region_Has.f k l0 a3 a4).bind fun t639 => ((miradorref15_Has.f k l0 a3 a4).bind fun t640 => (if (t639 == t640) = true then ((region_Bounds.f k l0).bind fun bt641 => ((miradorref15_Bounds.f k l0).bind fun bt645 => (some (bt641.1 == bt645.1 && (bt641.2.1 == bt645.2.1 && (bt641.2.2.1 == bt645.2.2.1 && (bt641.2.2.2 == bt645.2.2.2))))))) else (some false)))) else (some false)))) = some r := by rw [if_pos rfl] at H; exact H
        clear H
        have H := H1
        clear H1
        replace H := Option.bind_eq_some_iff.mp H
        obtain ⟨t637, A140, H⟩ := H
        replace H : ((miradorref15_Area.f k l0).bind fun t638 => (if t637 = t638 then ((region_Has.f k l0 a3 a4).bind fun t639 => ((miradorref15_Has.f k l0 a3 a4).bind fun t640 => (if (t639 == t640) = true then ((region_Bounds.f k l0).bind fun bt641 => ((miradorref15_Bounds.f k l0).bind fun bt645 => (some (bt641.1 == bt645.1 && (bt641.2.1 == bt645.2.1 && (bt641.2.2.1 == bt645.2.2.1 && (bt641.2.2.2 == bt645.2.2.2))))))) else (some false)))) else (some false))) = some r := H
        have A14 := Aside0.mk A140
        clear A140
        replace H := Option.bind_eq_some_iff.mp H
        obtain ⟨t638, A150, H⟩ := H
        replace H : (if t637 = t638 then ((region_Has.f k l0 a3 a4).bind fun t639 => ((miradorref15_Has.f k l0 a3 a4).bind fun t640 => (if (t639 == t640) = true then ((region_Bounds.f k l0).bind fun bt641 => ((miradorref15_Bounds.f k l0).bind fun bt645 => (some (bt641.1 == bt645.1 && (bt641.2.1 == bt645.2.1 && (bt641.2.2.1 == bt645.2.2.1 && (bt641.2.2.2 == bt645.2.2.2))))))) else (some false)))) else (some false)) = some r := H
        have A15 := Aside0.mk A150
        clear A150
        by_cases c16 : t637 = t638
        · rw [if_pos c16] at H
          have c16b0 : (t637 == t638) = true := beq_iff_eq.mpr c16
          have c16b1 : (t637 != t638) = false := bne_eq_false_iff_eq.mpr c16
          clear c16
          replace H := Option.bind_eq_some_iff.mp H
          obtain ⟨t639, A170, H⟩ := H
          replace H : ((miradorref15_Has.f k l0 a3 a4).bind fun t640 => (if (t639 == t640) = true then ((region_Bounds.f k l0).bind fun bt641 => ((miradorref15_Bounds.f k l0).bind fun bt645 => (some (bt641.1 == bt645.1 && (bt641.2.1 == bt645.2.1 && (bt641.2.2.1 == bt645.2.2.1 && (bt641.2.2.2 == bt645.2.2.2))))))) else (some false))) = some r := H
          have A17 := Aside0.mk A170
          clear A170
          replace H := Option.bind_eq_some_iff.mp H
          obtain ⟨t640, A180, H⟩ := H
          replace H : (if (t639 == t640) = true then ((region_Bounds.f k l0).bind fun bt641 => ((miradorref15_Bounds.f k l0).bind fun bt645 => (some (bt641.1 == bt645.1 && (bt641.2.1 == bt645.2.1 && (bt641.2.2.1 == bt645.2.2.1 && (bt641.2.2.2 == bt645.2.2.2))))))) else (some false)) = some r := H
          have A18 := Aside0.mk A180
          clear A180
          by_cases c19 : (t639 == t640) = true
          · rw [if_pos c19] at H
            have c19b0 : (t639 == t640) = true := c19
            (try (have c19b1 : decide (t639 = t640) = true := by simpa using c19))
            (try (have c19b2 : (t639 == t640) = true := by simpa using c19))
            clear c19
            replace H := Option.bind_eq_some_iff.mp H
            obtain ⟨⟨t641, t642, t643, t644⟩, A200, H⟩ := H
            replace H : ((miradorref15_Bounds.f k l0).bind fun bt645 => (some (t641 == bt645.1 && (t642 == bt645.2.1 && (t643 == bt645.2.2.1 && (t644 == bt645.2.2.2)))))) = some r := H
            have A20 := Aside0.mk A200
            clear A200
            replace H := Option.bind_eq_some_iff.mp H
            obtain ⟨⟨t645, t646, t647, t648⟩, A210, H⟩ := H
            replace H : (some (t641 == t645 && (t642 == t646 && (t643 == t647 && (t644 == t648))))) = some r := H
            have A21 := Aside0.mk A210
            clear A210
            obtain rfl := Option.some.inj H
            go_enter Try.func9, Try.ntmps9
            go_wp2_with (first | ((with_reducible refine gate_callee (f := 10) rfl ?_); refine goesL_ (some 13) rfl rfl Try.func10 (by kernel_rfl) rfl #[] rfl (by (try simp only [List.map_toArray, List.map_cons, List.map_nil]); first | done | rfl | (simp only [List.length_drop, List.length_take]; rfl)) ?_; (with_reducible refine (miradorlaw15_works.calls k  true _ A6.out).mono ?_); rintro e w22 ⟨rfl, hb⟩; refine ⟨_, rfl, ?_⟩; have n0_ := Aside0.mk (below_step (by repeat (first | (with_reducible first | exact HB.out | apply below_alloc | apply pw_below_drewN | apply below_drew1) | exact HB.out)) hb); clear HB; have HB := n0_; clear n0_; (try clear hb); (try clear hb2); (try clear hk); (try clear hi)) | ((with_reducible refine gate_callee (f := 19) rfl ?_); refine goesL_ (some 23) rfl rfl Try.func19 (by kernel_rfl) rfl #[.slice A0 l0.length c0, .int .i64 a1, .int .i64 a2] rfl (by (try simp only [List.map_toArray, List.map_cons, List.map_nil]); first | done | rfl | (simp only [List.length_drop, List.length_take]; rfl)) ?_; (with_reducible refine (region_Shift.calls k _ _ l0 a1 a2 t630 _ ?side1 ?side2 A10.out).mono ?_); (case side1 => repeat (first | exact (Kd.C_below HR0.out HB.out) | (with_reducible refine Kd.C_alloc ?_ _) | (with_reducible refine Kd.C_drewN ?_ _) | (with_reducible refine Kd.C_drew ?_))); (case side2 => exact HC0.out); rintro e w23 ⟨v631, rfl, ho0, hb⟩; refine ⟨_, rfl, ?_⟩; have n0_ := Aside0.mk (Kd.R_lower ho0 (below_size (by repeat (first | (with_reducible first | exact HB.out | apply below_alloc | apply pw_below_drewN | apply below_drew1) | exact HB.out)))); have n1_ := Aside0.mk (below_step (by repeat (first | (with_reducible first | exact HB.out | apply below_alloc | apply pw_below_drewN | apply below_drew1) | exact HB.out)) hb); clear HB; have HO632 := n0_; have HB := n1_; clear n0_ n1_; (try clear hb); (try clear hb2); (try clear hk); (try clear hi); (try clear ho0)) | ((with_reducible refine gate_callee (f := 21) rfl ?_); refine goesL_ (some 27) rfl rfl Try.func21 (by kernel_rfl) rfl #[.slice A0 l0.length c0, .int .i64 a1, .int .i64 a2] rfl (by (try simp only [List.map_toArray, List.map_cons, List.map_nil]); first | done | rfl | (simp only [List.length_drop, List.length_take]; rfl)) ?_; (with_reducible refine (miradorref15_Shift.calls k _ _ l0 a1 a2 t633 _ ?side1 ?side2 A11.out).mono ?_); (case side1 => repeat (first | exact (Kd.C_below HR0.out HB.out) | (with_reducible refine Kd.C_alloc ?_ _) | (with_reducible refine Kd.C_drewN ?_ _) | (with_reducible refine Kd.C_drew ?_))); (case side2 => exact HC0.out); rintro e w24 ⟨v634, rfl, ho0, hb⟩; refine ⟨_, rfl, ?_⟩; have n0_ := Aside0.mk (Kd.R_elder' (by (with_reducible repeat (first | apply Kd.R_alloc | apply Kd.R_drewN | apply Kd.R_drew)); exact HO632.out) (Kd.R_base ho0) hb); have n1_ := Aside0.mk (Kd.R_lower (Kd.R_new' ho0 (Kd.R_lt (by (with_reducible repeat (first | apply Kd.R_alloc | apply Kd.R_drewN | apply Kd.R_drew)); exact HO632.out))) (below_size (by repeat (first | (with_reducible first | exact HB.out | apply below_alloc | apply pw_below_drewN | apply below_drew1) | exact HB.out)))); have n2_ := Aside0.mk (below_step (by repeat (first | (with_reducible first | exact HB.out | apply below_alloc | apply pw_below_drewN | apply below_drew1) | exact HB.out)) hb); clear HO632; clear HB; have HO632 := n0_; have HO635 := n1_; have HB := n2_; clear n0_ n1_ n2_; (try clear hb); (try clear hb2); (try clear hk); (try clear hi); (try clear ho0); obtain ⟨Ao25, co25, eo25⟩ := Kd.R_slice HO632.out; subst eo25; obtain ⟨Ao26, co26, eo26⟩ := Kd.R_slice HO635.out; subst eo26) | ((with_reducible refine gate_callee (f := 12) rfl ?_); refine goesL_ (some 28) rfl rfl Try.func12 (by kernel_rfl) rfl #[.slice Ao25 t630.length co25, .slice Ao26 t633.length co26] rfl (by (try simp only [List.map_toArray, List.map_cons, List.map_nil]); first | done | rfl | (simp only [List.length_drop, List.length_take]; rfl)) ?_; (with_reducible refine (miradorref15_Same.calls k _ _ t630 _ _ t633 true _ ?side1 ?side2 ?side3 ?side4 A12.out).mono ?_); (case side1 => repeat (first | exact (Kd.R_reads' HO632.out).2.2 | (with_reducible refine Kd.C_alloc ?_ _) | (with_reducible refine Kd.C_drewN ?_ _) | (with_reducible refine Kd.C_drew ?_))); (case side2 => exact (Kd.R_reads' HO632.out).2.1); (case side3 => repeat (first | exact (Kd.R_reads' HO635.out).2.2 | (with_reducible refine Kd.C_alloc ?_ _) | (with_reducible refine Kd.C_drewN ?_ _) | (with_reducible refine Kd.C_drew ?_))); (case side4 => exact (Kd.R_reads' HO635.out).2.1); rintro e w27 ⟨rfl, hb⟩; refine ⟨_, rfl, ?_⟩; have n0_ := Aside0.mk (Kd.R_below (by (with_reducible repeat (first | apply Kd.R_alloc | apply Kd.R_drewN | apply Kd.R_drew)); exact HO632.out) hb); have n1_ := Aside0.mk (Kd.R_below (by (with_reducible repeat (first | apply Kd.R_alloc | apply Kd.R_drewN | apply Kd.R_drew)); exact HO635.out) hb); have n2_ := Aside0.mk (below_step (by repeat (first | (with_reducible first | exact HB.out | apply below_alloc | apply pw_below_drewN | apply below_drew1) | exact HB.out)) hb); clear HO632; clear HO635; clear HB; have HO632 := n0_; have HO635 := n1_; have HB := n2_; clear n0_ n1_ n2_; (try clear hb); (try clear hb2); (try clear hk); (try clear hi)) | (go_at_call 13; (with_reducible refine (region_Area.calls k _ _ l0 t637 _ ?side1 ?side2 A14.out).mono ?_); (case side1 => repeat (first | exact (Kd.C_below HR0.out HB.out) | (with_reducible refine Kd.C_alloc ?_ _) | (with_reducible refine Kd.C_drewN ?_ _) | (with_reducible refine Kd.C_drew ?_))); (case side2 => exact HC0.out); rintro e w28 ⟨rfl, hb⟩; have n0_ := Aside0.mk (Kd.R_below (by (with_reducible repeat (first | apply Kd.R_alloc | apply Kd.R_drewN | apply Kd.R_drew)); exact HO632.out) hb); have n1_ := Aside0.mk (Kd.R_below (by (with_reducible repeat (first | apply Kd.R_alloc | apply Kd.R_drewN | apply Kd.R_drew)); exact HO635.out) hb); have n2_ := Aside0.mk (below_step (by repeat (first | (with_reducible first | exact HB.out | apply below_alloc | apply pw_below_drewN | apply below_drew1) | exact HB.out)) hb); clear HO632; clear HO635; clear HB; have HO632 := n0_; have HO635 := n1_; have HB := n2_; clear n0_ n1_ n2_; (try clear hb); (try clear hb2); (try clear hk); (try clear hi)) | (go_at_call 22; (with_reducible refine (miradorref15_Area.calls k _ _ l0 t638 _ ?side1 ?side2 A15.out).mono ?_); (case side1 => repeat (first | exact (Kd.C_below HR0.out HB.out) | (with_reducible refine Kd.C_alloc ?_ _) | (with_reducible refine Kd.C_drewN ?_ _) | (with_reducible refine Kd.C_drew ?_))); (case side2 => exact HC0.out); rintro e w29 ⟨rfl, hb⟩; have n0_ := Aside0.mk (Kd.R_below (by (with_reducible repeat (first | apply Kd.R_alloc | apply Kd.R_drewN | apply Kd.R_drew)); exact HO632.out) hb); have n1_ := Aside0.mk (Kd.R_below (by (with_reducible repeat (first | apply Kd.R_alloc | apply Kd.R_drewN | apply Kd.R_drew)); exact HO635.out) hb); have n2_ := Aside0.mk (below_step (by repeat (first | (with_reducible first | exact HB.out | apply below_alloc | apply pw_below_drewN | apply below_drew1) | exact HB.out)) hb); clear HO632; clear HO635; clear HB; have HO632 := n0_; have HO635 := n1_; have HB := n2_; clear n0_ n1_ n2_; (try clear hb); (try clear hb2); (try clear hk); (try clear hi)) | (go_at_call 18; (with_reducible refine (region_Has.calls k _ _ l0 a3 a4 t639 _ ?side1 ?side2 A17.out).mono ?_); (case side1 => repeat (first | exact (Kd.C_below HR0.out HB.out) | (with_reducible refine Kd.C_alloc ?_ _) | (with_reducible refine Kd.C_drewN ?_ _) | (with_reducible refine Kd.C_drew ?_))); (case side2 => exact HC0.out); rintro e w30 ⟨rfl, hb⟩; have n0_ := Aside0.mk (Kd.R_below (by (with_reducible repeat (first | apply Kd.R_alloc | apply Kd.R_drewN | apply Kd.R_drew)); exact HO632.out) hb); have n1_ := Aside0.mk (Kd.R_below (by (with_reducible repeat (first | apply Kd.R_alloc | apply Kd.R_drewN | apply Kd.R_drew)); exact HO635.out) hb); have n2_ := Aside0.mk (below_step (by repeat (first | (with_reducible first | exact HB.out | apply below_alloc | apply pw_below_drewN | apply below_drew1) | exact HB.out)) hb); clear HO632; clear HO635; clear HB; have HO632 := n0_; have HO635 := n1_; have HB := n2_; clear n0_ n1_ n2_; (try clear hb); (try clear hb2); (try clear hk); (try clear hi)) | (go_at_call 23; (with_reducible refine (miradorref15_Has.calls k _ _ l0 a3 a4 t640 _ ?side1 ?side2 A18.out).mono ?_); (case side1 => repeat (first | exact (Kd.C_below HR0.out HB.out) | (with_reducible refine Kd.C_alloc ?_ _) | (with_reducible refine Kd.C_drewN ?_ _) | (with_reducible refine Kd.C_drew ?_))); (case side2 => exact HC0.out); rintro e w31 ⟨rfl, hb⟩; have n0_ := Aside0.mk (Kd.R_below (by (with_reducible repeat (first | apply Kd.R_alloc | apply Kd.R_drewN | apply Kd.R_drew)); exact HO632.out) hb); have n1_ := Aside0.mk (Kd.R_below (by (with_reducible repeat (first | apply Kd.R_alloc | apply Kd.R_drewN | apply Kd.R_drew)); exact HO635.out) hb); have n2_ := Aside0.mk (below_step (by repeat (first | (with_reducible first | exact HB.out | apply below_alloc | apply pw_below_drewN | apply below_drew1) | exact HB.out)) hb); clear HO632; clear HO635; clear HB; have HO632 := n0_; have HO635 := n1_; have HB := n2_; clear n0_ n1_ n2_; (try clear hb); (try clear hb2); (try clear hk); (try clear hi)) | (go_at_call 20; (with_reducible refine (region_Bounds.calls k _ _ l0 t641 t642 t643 t644 _ ?side1 ?side2 A20.out).mono ?_); (case side1 => repeat (first | exact (Kd.C_below HR0.out HB.out) | (with_reducible refine Kd.C_alloc ?_ _) | (with_reducible refine Kd.C_drewN ?_ _) | (with_reducible refine Kd.C_drew ?_))); (case side2 => exact HC0.out); rintro e w32 ⟨rfl, hb⟩; have n0_ := Aside0.mk (Kd.R_below (by (with_reducible repeat (first | apply Kd.R_alloc | apply Kd.R_drewN | apply Kd.R_drew)); exact HO632.out) hb); have n1_ := Aside0.mk (Kd.R_below (by (with_reducible repeat (first | apply Kd.R_alloc | apply Kd.R_drewN | apply Kd.R_drew)); exact HO635.out) hb); have n2_ := Aside0.mk (below_step (by repeat (first | (with_reducible first | exact HB.out | apply below_alloc | apply pw_below_drewN | apply below_drew1) | exact HB.out)) hb); clear HO632; clear HO635; clear HB; have HO632 := n0_; have HO635 := n1_; have HB := n2_; clear n0_ n1_ n2_; (try clear hb); (try clear hb2); (try clear hk); (try clear hi)) | (go_at_call 24; (with_reducible refine (miradorref15_Bounds.calls k _ _ l0 t645 t646 t647 t648 _ ?side1 ?side2 A21.out).mono ?_); (case side1 => repeat (first | exact (Kd.C_below HR0.out HB.out) | (with_reducible refine Kd.C_alloc ?_ _) | (with_reducible refine Kd.C_drewN ?_ _) | (with_reducible refine Kd.C_drew ?_))); (case side2 => exact HC0.out); rintro e w33 ⟨rfl, hb⟩; have n0_ := Aside0.mk (Kd.R_below (by (with_reducible repeat (first | apply Kd.R_alloc | apply Kd.R_drewN | apply Kd.R_drew)); exact HO632.out) hb); have n1_ := Aside0.mk (Kd.R_below (by (with_reducible repeat (first | apply Kd.R_alloc | apply Kd.R_drewN | apply Kd.R_drew)); exact HO635.out) hb); have n2_ := Aside0.mk (below_step (by repeat (first | (with_reducible first | exact HB.out | apply below_alloc | apply pw_below_drewN | apply below_drew1) | exact HB.out)) hb); clear HO632; clear HO635; clear HB; have HO632 := n0_; have HO635 := n1_; have HB := n2_; clear n0_ n1_ n2_; (try clear hb); (try clear hb2); (try clear hk); (try clear hi)))
            go_ret
            exact ⟨by first | rfl | (simp [errW_none, errW_some] <;> rfl) | (simp [*, errW_none, errW_some] <;> rfl), by repeat (first | (with_reducible first | exact HB.out | apply below_alloc | apply pw_below_drewN | apply below_drew1) | exact HB.out)⟩
          · rw [if_neg c19] at H
            have c19b0 : (t639 == t640) = false := by simpa using c19
            (try (have c19b1 : decide (t639 = t640) = false := by simpa using c19))
            (try (have c19b2 : (t639 == t640) = false := by simpa using c19))
            (try (have c19b3 : ¬ (t639 = t640) := by simpa using c19))
            clear c19
            rw [HRT.out] at H
            exact absurd (Option.some.inj H) (by decide)
        · rw [if_neg c16] at H
          have c16b0 : (t637 == t638) = false := beq_eq_false_iff_ne.mpr c16
          have c16b1 : (t637 != t638) = true := bne_iff_ne.mpr c16
          rw [HRT.out] at H
          exact absurd (Option.some.inj H) (by decide)
      · replace c13 := Bool.eq_false_iff.mpr c13
        subst c13
        have H1 : (some false) = some r := by rw [if_neg (show ¬ (false = true) by decide)] at H; exact H
        clear H
        have H := H1
        clear H1
        rw [HRT.out] at H
        exact absurd (Option.some.inj H) (by decide)
  · replace c7 := Bool.eq_false_iff.mpr c7
    subst c7
    have H1 : (some false) = some r := by rw [if_neg (show ¬ (false = true) by decide)] at H; exact H
    clear H
    have H := H1
    clear H1
    rw [HRT.out] at H
    exact absurd (Option.some.inj H) (by decide)

end Go.Proofs.Ytkobiblgbpnlaaa.X
