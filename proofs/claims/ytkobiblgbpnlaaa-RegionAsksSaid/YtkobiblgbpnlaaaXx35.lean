/- What each Go function that these laws use answers: as a Lean function, with the proof that the machine's call comes to it. Written by a program of this session (xprint.py). -/
import Derived.Test.YtkobiblgbpnlaaaXx0
import Derived.Test.YtkobiblgbpnlaaaXx19
import Derived.Test.YtkobiblgbpnlaaaXx34
namespace Go.Proofs.Ytkobiblgbpnlaaa.X
open Go.RowKit Go.Proofs.YtkobiblgbpnlaaaW.PrintWords Go.Proofs.YtkobiblgbpnlaaaW.PrintLast Go.Proofs.YtkobiblgbpnlaaaW.PrintMore
attribute [local go_sem] max2_int min2_int max_two min_two max_three min_three max_four min_four   -- for this text's walks alone
set_option linter.unusedVariables false
set_option linter.unusedSimpArgs false

/-! ### region_Shift: function 19 -/
mutual
def region_Shift.j0 : Nat → List (S26) → Int → Int → Bool → Option ((List (S26)))
  | 0, _, _, _, _ => none
  | k + 1, x0, x1, x2, x16 => if x16 = true then (some ([] : List (S26))) else ((region_Make.f x0).bind fun t510 => (region_Shift.l0 k x1 x2 t510 (t510.length : Int) 0))
def region_Shift.l0 : Nat → Int → Int → List (S26) → Int → Int → Option ((List (S26)))
  | 0, _, _, _, _, _ => none
  | k + 1, x1, x2, x7, x20, x21 => if x21 < x20 then (if 0 ≤ x21 then (if x21 < (x7.length : Int) then ((some (x7.set (x21 : Int).toNat (⟨wrap64 (((rd_T26 x7 x21).f0) + x1), (rd_T26 x7 x21).f1, (rd_T26 x7 x21).f2, (rd_T26 x7 x21).f3⟩ : S26) : List (S26))).bind fun y514 => (region_Shift.l0 k x1 x2 (y514.set (x21 : Int).toNat (⟨(rd_T26 y514 x21).f0, wrap64 (((rd_T26 y514 x21).f1) + x2), (rd_T26 y514 x21).f2, (rd_T26 y514 x21).f3⟩ : S26)) x20 (wrap64 (x21 + 1)))) else (none)) else (none)) else ((region_Make.f x7).bind fun t517 => (some t517))
end
def region_Shift.f (k : Nat) (l0 : List (S26)) (a1 : Int) (a2 : Int) : Option ((List (S26))) := (region_small.f a1).bind fun t508 => (if t508 = true then ((region_small.f a2).bind fun t509 => (region_Shift.j0 k l0 a1 a2 (!t509))) else (region_Shift.j0 k l0 a1 a2 true))
theorem region_Shift.mono_l : ∀ k, (∀ y0 y1 y2 y3, LeO (region_Shift.j0 k y0 y1 y2 y3) (region_Shift.j0 (k + 1) y0 y1 y2 y3)) ∧ (∀ y0 y1 y2 y3 y4, LeO (region_Shift.l0 k y0 y1 y2 y3 y4) (region_Shift.l0 (k + 1) y0 y1 y2 y3 y4))
  | 0 => ⟨fun _ _ _ _ r h => by simp [region_Shift.j0] at h, fun _ _ _ _ _ r h => by simp [region_Shift.l0] at h⟩
  | k + 1 => by
    obtain ⟨ih0, ih1⟩ := region_Shift.mono_l k
    refine ⟨?_, ?_⟩
    · intro y0 y1 y2 y3
      unfold region_Shift.j0
      repeat' first
      | (with_reducible exact ih0 _ _ _ _)
      | (with_reducible exact ih1 _ _ _ _ _)
      | (with_reducible exact LeO.refl _)
      | (with_reducible exact LeO.none _)
      | (with_reducible refine LeO.ite ?_ ?_)
      | (with_reducible refine LeO.bind ?_ (fun _ => ?_))
      | exact ih0 _ _ _ _
      | exact ih1 _ _ _ _ _
      | exact LeO.none _
      | refine LeO.ite ?_ ?_
      | refine LeO.bind ?_ (fun _ => ?_)
    · intro y0 y1 y2 y3 y4
      unfold region_Shift.l0
      repeat' first
      | (with_reducible exact ih0 _ _ _ _)
      | (with_reducible exact ih1 _ _ _ _ _)
      | (with_reducible exact LeO.refl _)
      | (with_reducible exact LeO.none _)
      | (with_reducible refine LeO.ite ?_ ?_)
      | (with_reducible refine LeO.bind ?_ (fun _ => ?_))
      | exact ih0 _ _ _ _
      | exact ih1 _ _ _ _ _
      | exact LeO.none _
      | refine LeO.ite ?_ ?_
      | refine LeO.bind ?_ (fun _ => ?_)
theorem region_Shift.mono : ∀ a0 a1 a2 k, LeO (region_Shift.f k a0 a1 a2) (region_Shift.f (k + 1) a0 a1 a2) := by
  intro a0 a1 a2 k
  obtain ⟨ih0, ih1⟩ := region_Shift.mono_l k
  unfold region_Shift.f
  repeat' first
      | (with_reducible exact ih0 _ _ _ _)
      | (with_reducible exact ih1 _ _ _ _ _)
      | (with_reducible exact LeO.refl _)
      | (with_reducible exact LeO.none _)
      | (with_reducible refine LeO.ite ?_ ?_)
      | (with_reducible refine LeO.bind ?_ (fun _ => ?_))
      | exact ih0 _ _ _ _
      | exact ih1 _ _ _ _ _
      | exact LeO.none _
      | refine LeO.ite ?_ ?_
      | refine LeO.bind ?_ (fun _ => ?_)
set_option maxHeartbeats 8000000 in
set_option maxRecDepth 100000 in
theorem region_Shift.calls (k : Nat) (A0 : Option Addr) (c0 : Nat) (l0 : List (S26)) (a1 : Int) (a2 : Int) (r : List (S26)) (w : World) (hr0 : Kd.C k26 w A0 l0.length l0) (hc0 : l0.length ≤ c0) (h : region_Shift.f k l0 a1 a2 = some r) :
    Calls Try.prog 19 #[.slice A0 l0.length c0, .int .i64 a1, .int .i64 a2] w fun e w' => ∃ v0_ : Value, e = .returned (v0_) ∧ Kd.R k26 26 w' w.heap.size (fun _ => True) v0_ r ∧ Below w.heap.size w w' := by
  have HR0 := Aside0.mk hr0
  have HC0 := Aside0.mk hc0
  clear hr0 hc0
  have HB := Aside0.mk (Below.refl w.heap.size w)
  have H : ((region_small.f a1).bind fun t508 => (if t508 = true then ((region_small.f a2).bind fun t509 => (region_Shift.j0 k l0 a1 a2 (!t509))) else (region_Shift.j0 k l0 a1 a2 true))) = some r := h
  clear h
  have HC4 := Aside0.mk H
  clear H
  go_enter Try.func19, Try.ntmps19
  go_upto_region 1 with (fail)
  go_cut [16] (fun v16 wc => ∃ (kq : Nat) (x16_3 : Bool), v16 = .bool x16_3 ∧ Aside0 (region_Shift.j0 kq l0 a1 a2 x16_3 = some r) ∧ Aside0 (kq ≤ k) ∧ Aside0 (Below w.heap.size w wc))
  case first =>
    have H := HC4.out
    clear HC4
    replace H := Option.bind_eq_some_iff.mp H
    obtain ⟨t508, A50, H⟩ := H
    replace H : (if t508 = true then ((region_small.f a2).bind fun t509 => (region_Shift.j0 k l0 a1 a2 (!t509))) else (region_Shift.j0 k l0 a1 a2 true)) = some r := H
    have A5 := Aside0.mk A50
    clear A50
    by_cases c6 : t508 = true
    · subst c6
      have H1 : ((region_small.f a2).bind fun t509 => (region_Shift.j0 k l0 a1 a2 (!t509))) = some r := by rw [if_pos rfl] at H; exact H
      clear H
      have H := H1
      clear H1
      replace H := Option.bind_eq_some_iff.mp H
      obtain ⟨t509, A70, H⟩ := H
      replace H : (region_Shift.j0 k l0 a1 a2 (!t509)) = some r := H
      have A7 := Aside0.mk A70
      clear A70
      have H' := Aside0.mk H
      clear H
      go_wp2_with (first | ((with_reducible refine gate_callee (f := 36) rfl ?_); refine goesL_ (some 10) rfl rfl Try.func36 (by kernel_rfl) rfl #[.int .i64 a1] rfl (by (try simp only [List.map_toArray, List.map_cons, List.map_nil]); first | done | rfl | (simp only [List.length_drop, List.length_take]; rfl)) ?_; (with_reducible refine (region_small.calls a1 true _ A5.out).mono ?_); rintro e w' ⟨rfl, ⟨nd, rfl⟩⟩; refine ⟨_, rfl, ?_⟩) | (go_at_call 36; (with_reducible refine (region_small.calls a2 t509 _ A7.out).mono ?_); rintro e w' ⟨rfl, ⟨nd, rfl⟩⟩))
      go_meet
      case rel => exact ⟨_, (!t509), (by first | rfl | (simp; done) | (simp [*]; done)), H', ⟨by first | omega | exact Nat.le_refl _⟩, ⟨by repeat (first | (with_reducible first | exact HB.out | apply below_alloc | apply pw_below_drewN | apply below_drew1) | exact HB.out)⟩⟩
    · replace c6 := Bool.eq_false_iff.mpr c6
      subst c6
      have H1 : (region_Shift.j0 k l0 a1 a2 true) = some r := by rw [if_neg (show ¬ (false = true) by decide)] at H; exact H
      clear H
      have H := H1
      clear H1
      have H' := Aside0.mk H
      clear H
      go_wp2_with (first | ((with_reducible refine gate_callee (f := 36) rfl ?_); refine goesL_ (some 10) rfl rfl Try.func36 (by kernel_rfl) rfl #[.int .i64 a1] rfl (by (try simp only [List.map_toArray, List.map_cons, List.map_nil]); first | done | rfl | (simp only [List.length_drop, List.length_take]; rfl)) ?_; (with_reducible refine (region_small.calls a1 false _ A5.out).mono ?_); rintro e w' ⟨rfl, ⟨nd, rfl⟩⟩; refine ⟨_, rfl, ?_⟩))
      go_meet
      case rel => exact ⟨_, (true), (by first | rfl | (simp; done) | (simp [*]; done)), H', ⟨by first | omega | exact Nat.le_refl _⟩, ⟨by repeat (first | (with_reducible first | exact HB.out | apply below_alloc | apply pw_below_drewN | apply below_drew1) | exact HB.out)⟩⟩
  case rest =>
    clear HC4
    try clear c1
    try clear p2
    try clear c3
    try clear c6
    obtain ⟨kq, x16_3, rfl, HA, HJ3, HB⟩ := hcut
    cases kq with
    | zero => exact absurd HA.out (by simp [region_Shift.j0])
    | succ kj3 =>
      have H := HA.out
      clear HA
      simp only [region_Shift.j0] at H
      by_cases c8 : x16_3 = true
      · subst c8
        have H1 : (some ([] : List (S26))) = some r := by rw [if_pos rfl] at H; exact H
        clear H
        have H := H1
        clear H1
        obtain rfl := Option.some.inj H
        go_wp2
        go_ret
        exact ⟨_, by first | rfl | (simp [errW_none, errW_some] <;> rfl) | (simp [*, errW_none, errW_some] <;> rfl), by first | exact Kd.R_nil _ _ _ _ _ | exact Kd.N_nil _ _ _ _ _ | exact Kd.V_nil _ _ _ _ _ | exact Kd.Q_nil _ _ _ _ _ | exact Kd.S_nil _ _ _ _ _, by repeat (first | (with_reducible first | exact HB.out | apply below_alloc | apply pw_below_drewN | apply below_drew1) | exact HB.out)⟩
      · replace c8 := Bool.eq_false_iff.mpr c8
        subst c8
        have H1 : ((region_Make.f l0).bind fun t510 => (region_Shift.l0 kj3 a1 a2 t510 (t510.length : Int) 0)) = some r := by rw [if_neg (show ¬ (false = true) by decide)] at H; exact H
        clear H
        have H := H1
        clear H1
        replace H := Option.bind_eq_some_iff.mp H
        obtain ⟨t510, A90, H⟩ := H
        replace H : (region_Shift.l0 kj3 a1 a2 t510 (t510.length : Int) 0) = some r := H
        have A9 := Aside0.mk A90
        clear A90
        have H' := Aside0.mk H
        clear H
        go_wp2_with (first | ((with_reducible refine gate_callee (f := 11) rfl ?_); refine goesL_ (some 18) rfl rfl Try.func11 (by kernel_rfl) rfl #[.slice A0 l0.length c0] rfl (by (try simp only [List.map_toArray, List.map_cons, List.map_nil]); first | done | rfl | (simp only [List.length_drop, List.length_take]; rfl)) ?_; (with_reducible refine (region_Make.calls _ _ l0 t510 _ ?side1 ?side2 A9.out).mono ?_); (case side1 => repeat (first | exact (Kd.C_below HR0.out HB.out) | (with_reducible refine Kd.C_alloc ?_ _) | (with_reducible refine Kd.C_drewN ?_ _) | (with_reducible refine Kd.C_drew ?_))); (case side2 => exact HC0.out); rintro e w10 ⟨v511, rfl, ho0, hb⟩; refine ⟨_, rfl, ?_⟩; have n0_ := Aside0.mk (Kd.R_lower ho0 (below_size (by repeat (first | (with_reducible first | exact HB.out | apply below_alloc | apply pw_below_drewN | apply below_drew1) | exact HB.out)))); have n1_ := Aside0.mk (below_step (by repeat (first | (with_reducible first | exact HB.out | apply below_alloc | apply pw_below_drewN | apply below_drew1) | exact HB.out)) hb); clear HB; have HO512 := n0_; have HB := n1_; clear n0_ n1_; (try clear hb); (try clear hb2); (try clear hk); (try clear hi); (try clear ho0); obtain ⟨Ao11, co11, eo11⟩ := Kd.R_slice HO512.out; subst eo11))
        go_loopg [21] kj3 (fun kq v21 w' => ∃ (x7_2 : List (S26)) (x21_2 : Int), v21 = .int .i64 x21_2 ∧ Aside0 (region_Shift.l0 kq a1 a2 x7_2 (t510.length : Int) x21_2 = some r) ∧ Aside0 (kq ≤ kj3) ∧ Aside0 (Kd.R k26 26 w' w.heap.size (fun _ => True) (.slice Ao11 t510.length co11) x7_2) ∧ Aside0 (Below w.heap.size w w'))
        case atStart => exact ⟨(t510), (0), (by first | rfl | (simp; done) | (simp [*]; done)), H', ⟨Nat.le_refl _⟩, ⟨by (with_reducible repeat (first | apply Kd.R_alloc | apply Kd.R_drewN | apply Kd.R_drew)); exact HO512.out⟩, ⟨by repeat (first | (with_reducible first | exact HB.out | apply below_alloc | apply pw_below_drewN | apply below_drew1) | exact HB.out)⟩⟩
        case round =>
          clear H'
          try clear c1
          try clear p2
          try clear c3
          try clear c6
          try clear c8
          try clear c11
          try clear p2
          obtain ⟨x7_2, x21_2, rfl, HA, HK2, HO_7, HB⟩ := hrel
          have hl7_2 := (Kd.R_reads' HO_7.out).1
          rw [hl7_2] at HO_7
          (try simp only [hl7_2])
          cases gk with
          | zero => exact absurd HA.out (by simp [region_Shift.l0])
          | succ k2 =>
            have H := HA.out
            clear HA
            simp only [region_Shift.l0] at H
            by_cases c12 : x21_2 < (t510.length : Int)
            · rw [if_pos c12] at H
              have c12b0 : decide (x21_2 < (t510.length : Int)) = true := decide_eq_true c12
              clear c12
              by_cases c13 : 0 ≤ x21_2
              · rw [if_pos c13] at H
                have c13b0 : decide (0 ≤ x21_2) = true := decide_eq_true c13
                clear c13
                by_cases c14 : x21_2 < (x7_2.length : Int)
                · rw [if_pos c14] at H
                  have c14b0 : decide (x21_2 < (x7_2.length : Int)) = true := decide_eq_true c14
                  clear c14
                  obtain ⟨y514, hy514⟩ : ∃ y_ : List (S26), y_ = (x7_2.set (x21_2 : Int).toNat (⟨wrap64 (((rd_T26 x7_2 x21_2).f0) + a1), (rd_T26 x7_2 x21_2).f1, (rd_T26 x7_2 x21_2).f2, (rd_T26 x7_2 x21_2).f3⟩ : S26)) := ⟨_, rfl⟩
                  replace H : (region_Shift.l0 k2 a1 a2 (y514.set (x21_2 : Int).toNat (⟨(rd_T26 y514 x21_2).f0, wrap64 (((rd_T26 y514 x21_2).f1) + a2), (rd_T26 y514 x21_2).f2, (rd_T26 y514 x21_2).f3⟩ : S26)) (t510.length : Int) (wrap64 (x21_2 + 1))) = some r := by first | (rw [hy514]; with_reducible exact H) | (have H2_ := (Option.bind_some _ _).symm.trans H; rw [hy514]; with_reducible exact H2_) | (have H2_ := (Option.bind_some _ _).symm.trans H; with_reducible exact H2_) | with_reducible exact H | (rw [hy514]; exact H) | exact H
                  have Ny514 := Aside0.mk hy514
                  clear hy514
                  obtain ⟨y516, hy516⟩ : ∃ y_ : List (S26), y_ = (y514.set (x21_2 : Int).toNat (⟨(rd_T26 y514 x21_2).f0, wrap64 (((rd_T26 y514 x21_2).f1) + a2), (rd_T26 y514 x21_2).f2, (rd_T26 y514 x21_2).f3⟩ : S26)) := ⟨_, rfl⟩
                  replace H : (region_Shift.l0 k2 a1 a2 y516 (t510.length : Int) (wrap64 (x21_2 + 1))) = some r := by first | (rw [hy516]; with_reducible exact H) | (have H2_ := (Option.bind_some _ _).symm.trans H; rw [hy516]; with_reducible exact H2_) | (have H2_ := (Option.bind_some _ _).symm.trans H; with_reducible exact H2_) | with_reducible exact H | (rw [hy516]; exact H) | exact H
                  have Ny516 := Aside0.mk hy516
                  clear hy516
                  have H' := Aside0.mk H
                  clear H
                  have p513 : 0 ≤ (x21_2 : Int) := of_decide_eq_true (by first | (with_reducible assumption) | assumption)
                  have q513 : x21_2 < (x7_2.length : Int) := of_decide_eq_true (by first | (with_reducible assumption) | assumption)
                  obtain ⟨ad513, e513, hx513_0, hx513_1, hx513_2, hx513_3⟩ := at_T26 (Kd.R_reads' HO_7.out).2.2 x21_2 p513 q513
                  cases e513
                  replace p513 := eq_true p513
                  replace q513 := eq_true q513
                  have p15 : 0 ≤ (x21_2 : Int) := of_decide_eq_true (by first | (with_reducible assumption) | assumption)
                  have q15 : (x21_2 : Int) < ((x7_2.length : Int) : Int) := of_decide_eq_true (by first | (with_reducible assumption) | assumption)
                  obtain ⟨go15, co15, eo15, gb15, gl15, cl15, HG15⟩ := Kd.R_form HO_7.out (by omega)
                  (first | cases eo15 | (injection eo15 with ea_ en_ ec_; (first | subst ea_ | (injection ea_ with ea_; subst ea_)); subst ec_; clear en_))
                  have GB15 := Aside0.mk gb15
                  have GG15 := Aside0.mk HG15
                  clear gb15 gl15 HG15
                  (first | simp only [add_plain] at hx513_0 | skip)
                  (first | simp only [add_plain] at hx513_1 | skip)
                  (first | simp only [add_plain] at hx513_2 | skip)
                  (first | simp only [add_plain] at hx513_3 | skip)
                  obtain ⟨ce15, hcl15, hM15, hcc15, hfr15⟩ := Kd.R_elem HO_7.out z26 (x21_2 : Int) p15 q15
                  obtain rfl := k26_openM hM15
                  have hx15_0 : wr.cell? ⟨go15, (x21_2 : Int).toNat * 4, none⟩ = some (.int .i64 ((rd_T26 x7_2 x21_2).f0)) := hcc15 0 _ rfl
                  have hx15_1 : wr.cell? ⟨go15, (x21_2 : Int).toNat * 4 + 1, none⟩ = some (.int .i64 ((rd_T26 x7_2 x21_2).f1)) := hcc15 1 _ rfl
                  have hx15_2 : wr.cell? ⟨go15, (x21_2 : Int).toNat * 4 + 2, none⟩ = some (.int .i64 ((rd_T26 x7_2 x21_2).f2)) := hcc15 2 _ rfl
                  have hx15_3 : wr.cell? ⟨go15, (x21_2 : Int).toNat * 4 + 3, none⟩ = some (.int .i64 ((rd_T26 x7_2 x21_2).f3)) := hcc15 3 _ rfl
                  have hf15_0 : wr.frozen? ⟨go15, (x21_2 : Int).toNat * 4, none⟩ = false := hfr15 0
                  have hf15_1 : wr.frozen? ⟨go15, (x21_2 : Int).toNat * 4 + 1, none⟩ = false := hfr15 1
                  have hf15_2 : wr.frozen? ⟨go15, (x21_2 : Int).toNat * 4 + 2, none⟩ = false := hfr15 2
                  have hf15_3 : wr.frozen? ⟨go15, (x21_2 : Int).toNat * 4 + 3, none⟩ = false := hfr15 3
                  clear hcl15 hcc15 hfr15 hM15
                  replace p15 := eq_true p15
                  replace q15 := eq_true q15
                  have HX17 := Aside0.mk (show Kd.R k26 26 wr w.heap.size (fun _ => True) (.slice (some ⟨go15, 0, none⟩) x7_2.length co11) x7_2 from (by (with_reducible repeat (first | apply Kd.R_alloc | apply Kd.R_drewN | apply Kd.R_drew)); exact HO_7.out))
                  obtain ⟨ce17, hcl17, hM17, hcc17, hfr17⟩ := Kd.R_elem HX17.out z26 (x21_2 : Int) (of_decide_eq_true (by first | (with_reducible assumption) | assumption)) (by have h_ : (x21_2 : Int) < ((x7_2.length : Int) : Int) := of_decide_eq_true (by first | (with_reducible assumption) | assumption); first | exact h_ | (have e_ := (Kd.R_reads' HO_7.out).1; omega) | simpa using h_)
                  obtain rfl := k26_openM hM17
                  have HP17 := Kd.R_seg HX17.out (x21_2 : Int) (of_decide_eq_true (by first | (with_reducible assumption) | assumption)) (by have h_ : (x21_2 : Int) < ((x7_2.length : Int) : Int) := of_decide_eq_true (by first | (with_reducible assumption) | assumption); first | exact h_ | (have e_ := (Kd.R_reads' HO_7.out).1; omega) | simpa using h_) (seg := [.int .i64 (wrap64 (((rd_T26 x7_2 x21_2).f0) + a1))]) (j := 0) hcl17 hcc17 (show 1 ≤ 4 from by decide) (x' := (⟨wrap64 (((rd_T26 x7_2 x21_2).f0) + a1), (rd_T26 x7_2 x21_2).f1, (rd_T26 x7_2 x21_2).f2, (rd_T26 x7_2 x21_2).f3⟩ : S26)) (k26_mkM _ _ _ (⟨wrap64 (((rd_T26 x7_2 x21_2).f0) + a1), (rd_T26 x7_2 x21_2).f1, (rd_T26 x7_2 x21_2).f2, (rd_T26 x7_2 x21_2).f3⟩ : S26) ) (fun _ hk => hk)
                  have hx17_0 := hcc17 0 _ rfl
                  (try simp only [show (k26).sz = 4 from rfl, Nat.mul_one, Nat.add_zero] at hx17_0)
                  have hf17_0 := hfr17 0
                  (try simp only [show (k26).sz = 4 from rfl, Nat.mul_one, Nat.add_zero] at hf17_0)
                  clear hcl17 hcc17 hfr17 hM17
                  go_wp2_with (first | ((with_reducible refine gate_store (t := 3) (p := 32) rfl ?_); refine store_event (t := 3) (p := 32) (v := ?vo_w18) (w1 := (wr.setCell ⟨go15, (x21_2 : Int).toNat * 4, none⟩ (.int .i64 (wrap64 (((rd_T26 x7_2 x21_2).f0) + a1))))) ?hg ?ho ?hn ?hr ?_; (case ho => rfl); (case hg => rfl); (case hn => rfl); (case hr => first | (go_simp; done) | (go_simp; rfl)); intro w18 hw; have hg : wr.grownBy w18 (some go15) := (by rw [hw]; exact HP17.2); have hp_ : Kd.R k26 26 w18 w.heap.size (fun _ => True) (.slice (some ⟨go15, 0, none⟩) x7_2.length co11) y514 := (by rw [hw, Ny514.out]; exact HP17.1); clear HP17; have n0_ := Aside0.mk (hp_); have n1_ := Aside0.mk ((by rw [hw]; exact below_set (HB.out) GB15.out : Below w.heap.size w w18)); clear HO_7; clear HB; have HO_7 := n0_; have HB := n1_; clear n0_ n1_; clear hg hw hp_; have p515 : 0 ≤ (x21_2 : Int) := of_decide_eq_true (by first | (with_reducible assumption) | assumption); have q515 : x21_2 < (y514.length : Int) := (by have h_ : (x21_2 : Int) < ((x7_2.length : Int) : Int) := of_decide_eq_true (by first | (with_reducible assumption) | assumption); first | (have e_ := (Kd.R_reads' HO_7.out).1; omega) | simpa only [Ny514.out, List.length_set] using h_); have ql515 : ((x21_2 : Int) < ((x7_2.length : Int) : Int)) = True := eq_true (of_decide_eq_true (by first | (with_reducible assumption) | assumption)); obtain ⟨ad515, e515, hx515_0, hx515_1, hx515_2, hx515_3⟩ := at_T26 (Kd.R_reads' HO_7.out).2.2 x21_2 p515 q515; obtain rfl : (⟨go15, 0, none⟩ : Addr) = ad515 := (by injection e515); (first | simp only [add_plain] at hx515_0 | simp only [add_at] at hx515_0 | simp only [Addr.add, Nat.zero_add] at hx515_0 | skip); (first | simp only [add_plain] at hx515_1 | simp only [add_at] at hx515_1 | simp only [Addr.add, Nat.zero_add] at hx515_1 | skip); (first | simp only [add_plain] at hx515_2 | simp only [add_at] at hx515_2 | simp only [Addr.add, Nat.zero_add] at hx515_2 | skip); (first | simp only [add_plain] at hx515_3 | simp only [add_at] at hx515_3 | simp only [Addr.add, Nat.zero_add] at hx515_3 | skip); replace p515 := eq_true p515; replace q515 := eq_true q515; have p16 : 0 ≤ (x21_2 : Int) := of_decide_eq_true (by first | (with_reducible assumption) | assumption); have q16 : (x21_2 : Int) < ((x7_2.length : Int) : Int) := of_decide_eq_true (by first | (with_reducible assumption) | assumption); obtain ⟨ce16, hcl16, hM16, hcc16, hfr16⟩ := Kd.R_elem HO_7.out z26 (x21_2 : Int) p16 q16; obtain rfl := k26_openM hM16; have hx16_0 : w18.cell? ⟨go15, (x21_2 : Int).toNat * 4, none⟩ = some (.int .i64 ((rd_T26 y514 x21_2).f0)) := hcc16 0 _ rfl; have hx16_1 : w18.cell? ⟨go15, (x21_2 : Int).toNat * 4 + 1, none⟩ = some (.int .i64 ((rd_T26 y514 x21_2).f1)) := hcc16 1 _ rfl; have hx16_2 : w18.cell? ⟨go15, (x21_2 : Int).toNat * 4 + 2, none⟩ = some (.int .i64 ((rd_T26 y514 x21_2).f2)) := hcc16 2 _ rfl; have hx16_3 : w18.cell? ⟨go15, (x21_2 : Int).toNat * 4 + 3, none⟩ = some (.int .i64 ((rd_T26 y514 x21_2).f3)) := hcc16 3 _ rfl; have hf16_0 : w18.frozen? ⟨go15, (x21_2 : Int).toNat * 4, none⟩ = false := hfr16 0; have hf16_1 : w18.frozen? ⟨go15, (x21_2 : Int).toNat * 4 + 1, none⟩ = false := hfr16 1; have hf16_2 : w18.frozen? ⟨go15, (x21_2 : Int).toNat * 4 + 2, none⟩ = false := hfr16 2; have hf16_3 : w18.frozen? ⟨go15, (x21_2 : Int).toNat * 4 + 3, none⟩ = false := hfr16 3; clear hcl16 hcc16 hfr16 hM16; replace p16 := eq_true p16; replace q16 := eq_true q16; have HX19 := Aside0.mk (show Kd.R k26 26 w18 w.heap.size (fun _ => True) (.slice (some ⟨go15, 0, none⟩) x7_2.length co11) y514 from (by (with_reducible repeat (first | apply Kd.R_alloc | apply Kd.R_drewN | apply Kd.R_drew)); exact HO_7.out)); obtain ⟨ce19, hcl19, hM19, hcc19, hfr19⟩ := Kd.R_elem HX19.out z26 (x21_2 : Int) (of_decide_eq_true (by first | (with_reducible assumption) | assumption)) (by have h_ : (x21_2 : Int) < ((x7_2.length : Int) : Int) := of_decide_eq_true (by first | (with_reducible assumption) | assumption); first | exact h_ | (have e_ := (Kd.R_reads' HO_7.out).1; omega) | simpa using h_); obtain rfl := k26_openM hM19; have HP19 := Kd.R_seg HX19.out (x21_2 : Int) (of_decide_eq_true (by first | (with_reducible assumption) | assumption)) (by have h_ : (x21_2 : Int) < ((x7_2.length : Int) : Int) := of_decide_eq_true (by first | (with_reducible assumption) | assumption); first | exact h_ | (have e_ := (Kd.R_reads' HO_7.out).1; omega) | simpa using h_) (seg := [.int .i64 (wrap64 (((rd_T26 y514 x21_2).f1) + a2))]) (j := 1) hcl19 hcc19 (show 2 ≤ 4 from by decide) (x' := (⟨(rd_T26 y514 x21_2).f0, wrap64 (((rd_T26 y514 x21_2).f1) + a2), (rd_T26 y514 x21_2).f2, (rd_T26 y514 x21_2).f3⟩ : S26)) (k26_mkM _ _ _ (⟨(rd_T26 y514 x21_2).f0, wrap64 (((rd_T26 y514 x21_2).f1) + a2), (rd_T26 y514 x21_2).f2, (rd_T26 y514 x21_2).f3⟩ : S26) ) (fun _ hk => hk); have hx19_1 := hcc19 1 _ rfl; (try simp only [show (k26).sz = 4 from rfl, Nat.mul_one, Nat.add_zero] at hx19_1); have hf19_1 := hfr19 1; (try simp only [show (k26).sz = 4 from rfl, Nat.mul_one, Nat.add_zero] at hf19_1); clear hcl19 hcc19 hfr19 hM19) | ((with_reducible refine gate_store (t := 3) (p := 41) rfl ?_); refine store_event (t := 3) (p := 41) (v := ?vo_w20) (w1 := (w18.setCell ⟨go15, (x21_2 : Int).toNat * 4 + 1, none⟩ (.int .i64 (wrap64 (((rd_T26 y514 x21_2).f1) + a2))))) ?hg ?ho ?hn ?hr ?_; (case ho => rfl); (case hg => rfl); (case hn => rfl); (case hr => first | (go_simp; done) | (go_simp; rfl)); intro w20 hw; have hg : w18.grownBy w20 (some go15) := (by rw [hw]; exact HP19.2); have hp_ : Kd.R k26 26 w20 w.heap.size (fun _ => True) (.slice (some ⟨go15, 0, none⟩) x7_2.length co11) y516 := (by rw [hw, Ny516.out]; exact HP19.1); clear HP19; have n0_ := Aside0.mk (hp_); have n1_ := Aside0.mk ((by rw [hw]; exact below_set (HB.out) GB15.out : Below w.heap.size w w20)); clear HO_7; clear HB; have HO_7 := n0_; have HB := n1_; clear n0_ n1_; clear hg hw hp_))
                  (try simp only [← hl7_2])
                  go_roundg k2
                  case measure => have := HJ3.out; have := HK2.out; omega
                  case rel => exact ⟨(y516), (wrap64 (x21_2 + 1)), (by first | rfl | (simp; done) | (simp [*]; done)), H', ⟨by have := HJ3.out; have := HK2.out; omega⟩, ⟨by (try simp only [hl7_2]); (with_reducible repeat (first | apply Kd.R_alloc | apply Kd.R_drewN | apply Kd.R_drew)); exact HO_7.out⟩, ⟨by repeat (first | (with_reducible first | exact HB.out | apply below_alloc | apply pw_below_drewN | apply below_drew1) | exact HB.out)⟩⟩
                · rw [if_neg c14] at H
                  exact absurd H (by simp)
              · rw [if_neg c13] at H
                exact absurd H (by simp)
            · rw [if_neg c12] at H
              have c12b0 : decide (x21_2 < (t510.length : Int)) = false := decide_eq_false c12
              have cqq : decide (x21_2 < (x7_2.length : Int)) = false := by rw [← hl7_2]; exact c12b0
              clear c12
              replace H := Option.bind_eq_some_iff.mp H
              obtain ⟨t517, A210, H⟩ := H
              replace H : (some t517) = some r := H
              have A21 := Aside0.mk A210
              clear A210
              obtain rfl := Option.some.inj H
              go_wp2_with (first | ((with_reducible refine gate_callee (f := 11) rfl ?_); refine goesL_ (some 44) rfl rfl Try.func11 (by kernel_rfl) rfl #[.slice Ao11 x7_2.length co11] rfl (by (try simp only [List.map_toArray, List.map_cons, List.map_nil]); first | done | rfl | (simp only [List.length_drop, List.length_take]; rfl)) ?_; (with_reducible refine (region_Make.calls _ _ x7_2 t517 _ ?side1 ?side2 A21.out).mono ?_); (case side1 => repeat (first | exact (Kd.R_reads' HO_7.out).2.2 | (with_reducible refine Kd.C_alloc ?_ _) | (with_reducible refine Kd.C_drewN ?_ _) | (with_reducible refine Kd.C_drew ?_))); (case side2 => exact (Kd.R_reads' HO_7.out).2.1); rintro e w22 ⟨v518, rfl, ho0, hb⟩; refine ⟨_, rfl, ?_⟩; have n0_ := Aside0.mk (Kd.R_elder' (by (with_reducible repeat (first | apply Kd.R_alloc | apply Kd.R_drewN | apply Kd.R_drew)); exact HO_7.out) (Kd.R_base ho0) hb); have n1_ := Aside0.mk (Kd.R_lower (Kd.R_new' ho0 (Kd.R_lt (by (with_reducible repeat (first | apply Kd.R_alloc | apply Kd.R_drewN | apply Kd.R_drew)); exact HO_7.out))) (below_size (by repeat (first | (with_reducible first | exact HB.out | apply below_alloc | apply pw_below_drewN | apply below_drew1) | exact HB.out)))); have n2_ := Aside0.mk (below_step (by repeat (first | (with_reducible first | exact HB.out | apply below_alloc | apply pw_below_drewN | apply below_drew1) | exact HB.out)) hb); clear HO_7; clear HB; have HO_7 := n0_; have HO519 := n1_; have HB := n2_; clear n0_ n1_ n2_; (try clear hb); (try clear hb2); (try clear hk); (try clear hi); (try clear ho0)))
              go_ret
              exact ⟨_, by first | rfl | (simp [errW_none, errW_some] <;> rfl) | (simp [*, errW_none, errW_some] <;> rfl), by (with_reducible repeat (first | apply Kd.R_alloc | apply Kd.R_drewN | apply Kd.R_drew)); exact Kd.R_mono HO519.out (fun _ hk => trivial), by repeat (first | (with_reducible first | exact HB.out | apply below_alloc | apply pw_below_drewN | apply below_drew1) | exact HB.out)⟩

end Go.Proofs.Ytkobiblgbpnlaaa.X
