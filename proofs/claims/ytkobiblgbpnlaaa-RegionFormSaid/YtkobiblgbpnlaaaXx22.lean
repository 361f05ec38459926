/- What each Go function that these laws use answers: as a Lean function, with the proof that the machine's call comes to it. Written by a program of this session (xprint.py). -/
import Derived.Test.YtkobiblgbpnlaaaXx0
import Derived.Test.YtkobiblgbpnlaaaXx19
import Derived.Test.YtkobiblgbpnlaaaXx20
import Derived.Test.YtkobiblgbpnlaaaXx21
namespace Go.Proofs.Ytkobiblgbpnlaaa.X
open Go.RowKit Go.Proofs.YtkobiblgbpnlaaaW.PrintWords Go.Proofs.YtkobiblgbpnlaaaW.PrintLast Go.Proofs.YtkobiblgbpnlaaaW.PrintMore
attribute [local go_sem] max2_int min2_int max_two min_two max_three min_three max_four min_four   -- for this text's walks alone
set_option linter.unusedVariables false
set_option linter.unusedSimpArgs false

/-! ### miradorlaw15_RegionForm: function 3 -/
mutual
def miradorlaw15_RegionForm.l0 : Nat → List (S26) → Bool → List (S26) → Int → Int → Option (Bool)
  | 0, _, _, _, _, _ => none
  | k + 1, x0, x3, x4, x5, x6 => if x6 < (x4.length : Int) then (if 0 ≤ x6 then (if ((rd_T26 x4 x6).f2) < 1 then (miradorlaw15_RegionForm.j1 k x0 x3 x4 x5 x6 true ((rd_T26 x4 x6).f0) ((rd_T26 x4 x6).f1) ((rd_T26 x4 x6).f2) ((rd_T26 x4 x6).f3)) else (miradorlaw15_RegionForm.j1 k x0 x3 x4 x5 x6 (decide (((rd_T26 x4 x6).f3) < 1)) ((rd_T26 x4 x6).f0) ((rd_T26 x4 x6).f1) ((rd_T26 x4 x6).f2) ((rd_T26 x4 x6).f3))) else (none)) else (miradorlaw15_RegionForm.l1 k x0 x3 x4 x5 ([] : List (S26)) (wrap64 ((x0.length : Int) - 1)))
def miradorlaw15_RegionForm.j1 : Nat → List (S26) → Bool → List (S26) → Int → Int → Bool → Int → Int → Int → Int → Option (Bool)
  | 0, _, _, _, _, _, _, _, _, _, _ => none
  | k + 1, x0, x3, x4, x5, x6, x39, x301000, x301001, x301002, x301003 => if x39 = true then (some false) else (if x6 = 0 then (miradorlaw15_RegionForm.l0 k x0 x3 x4 (wrap64 (x5 + (wrap64 (x301002 * x301003)))) (wrap64 (x6 + 1))) else (if 0 ≤ (wrap64 (x6 - 1)) then (if (wrap64 (x6 - 1)) < (x4.length : Int) then (if ((rd_T26 x4 (wrap64 (x6 - 1))).f1) = x301001 then (if ((rd_T26 x4 (wrap64 (x6 - 1))).f3) = x301003 then (if (wrap64 (((rd_T26 x4 (wrap64 (x6 - 1))).f0) + ((rd_T26 x4 (wrap64 (x6 - 1))).f2))) ≥ x301000 then (some false) else (miradorlaw15_RegionForm.l0 k x0 x3 x4 (wrap64 (x5 + (wrap64 (x301002 * x301003)))) (wrap64 (x6 + 1)))) else (some false)) else (if (wrap64 (((rd_T26 x4 (wrap64 (x6 - 1))).f1) + ((rd_T26 x4 (wrap64 (x6 - 1))).f3))) > x301001 then (some false) else (miradorlaw15_RegionForm.l0 k x0 x3 x4 (wrap64 (x5 + (wrap64 (x301002 * x301003)))) (wrap64 (x6 + 1))))) else (none)) else (none)))
def miradorlaw15_RegionForm.l1 : Nat → List (S26) → Bool → List (S26) → Int → List (S26) → Int → Option (Bool)
  | 0, _, _, _, _, _, _ => none
  | k + 1, x0, x3, x4, x5, x9, x10 => if x10 ≥ 0 then (if 0 ≤ x10 then (if x10 < (x0.length : Int) then ((some (([(⟨(rd_T26 x0 x10).f0, (rd_T26 x0 x10).f1, (rd_T26 x0 x10).f2, (rd_T26 x0 x10).f3⟩ : S26), (⟨(rd_T26 x0 x10).f0, (rd_T26 x0 x10).f1, (rd_T26 x0 x10).f2, (rd_T26 x0 x10).f3⟩ : S26)] : List (S26)) : List (S26))).bind fun y305 => (if x9.length + y305.length < 4398046511104 then (miradorlaw15_RegionForm.l1 k x0 x3 x4 x5 (x9 ++ y305) (wrap64 (x10 - 1))) else (none))) else (none)) else (none)) else ((region_Make.f x4).bind fun t311 => ((miradorref15_Same.f k t311 x4).bind fun t314 => ((region_Make.f x9).bind fun t315 => ((miradorref15_Same.f k t315 x4).bind fun t318 => (if x3 = true then (if t314 = true then (if t318 = true then ((region_Area.f k x0).bind fun t319 => (some (t319 == x5))) else (some false)) else (some false)) else (some false))))))
end
def miradorlaw15_RegionForm.f (k : Nat) (l0 : List (S26)) : Option (Bool) := (miradorlaw15_works.f k).bind fun t295 => (if t295 = true then (if (l0.length : Int) > 12 then (some t295) else ((region_Make.f l0).bind fun t296 => (miradorlaw15_RegionForm.l0 k l0 t295 t296 0 0))) else (some false))
theorem miradorlaw15_RegionForm.mono_l : ∀ k, (∀ y0 y1 y2 y3 y4, LeO (miradorlaw15_RegionForm.l0 k y0 y1 y2 y3 y4) (miradorlaw15_RegionForm.l0 (k + 1) y0 y1 y2 y3 y4)) ∧ (∀ y0 y1 y2 y3 y4 y5 y6 y7 y8 y9, LeO (miradorlaw15_RegionForm.j1 k y0 y1 y2 y3 y4 y5 y6 y7 y8 y9) (miradorlaw15_RegionForm.j1 (k + 1) y0 y1 y2 y3 y4 y5 y6 y7 y8 y9)) ∧ (∀ y0 y1 y2 y3 y4 y5, LeO (miradorlaw15_RegionForm.l1 k y0 y1 y2 y3 y4 y5) (miradorlaw15_RegionForm.l1 (k + 1) y0 y1 y2 y3 y4 y5))
  | 0 => ⟨fun _ _ _ _ _ r h => by simp [miradorlaw15_RegionForm.l0] at h, fun _ _ _ _ _ _ _ _ _ _ r h => by simp [miradorlaw15_RegionForm.j1] at h, fun _ _ _ _ _ _ r h => by simp [miradorlaw15_RegionForm.l1] at h⟩
  | k + 1 => by
    obtain ⟨ih0, ih1, ih2⟩ := miradorlaw15_RegionForm.mono_l k
    refine ⟨?_, ?_, ?_⟩
    · intro y0 y1 y2 y3 y4
      unfold miradorlaw15_RegionForm.l0
      repeat' first
      | (with_reducible exact ih0 _ _ _ _ _)
      | (with_reducible exact ih1 _ _ _ _ _ _ _ _ _ _)
      | (with_reducible exact ih2 _ _ _ _ _ _)
      | (with_reducible exact miradorlaw15_works.mono _)
      | (with_reducible exact miradorref15_Same.mono _ _ _)
      | (with_reducible exact region_Area.mono _ _)
      | (with_reducible exact LeO.refl _)
      | (with_reducible exact LeO.none _)
      | (with_reducible refine LeO.ite ?_ ?_)
      | (with_reducible refine LeO.bind ?_ (fun _ => ?_))
      | exact ih0 _ _ _ _ _
      | exact ih1 _ _ _ _ _ _ _ _ _ _
      | exact ih2 _ _ _ _ _ _
      | exact miradorlaw15_works.mono _
      | exact miradorref15_Same.mono _ _ _
      | exact region_Area.mono _ _
      | exact LeO.none _
      | refine LeO.ite ?_ ?_
      | refine LeO.bind ?_ (fun _ => ?_)
    · intro y0 y1 y2 y3 y4 y5 y6 y7 y8 y9
      unfold miradorlaw15_RegionForm.j1
      repeat' first
      | (with_reducible exact ih0 _ _ _ _ _)
      | (with_reducible exact ih1 _ _ _ _ _ _ _ _ _ _)
      | (with_reducible exact ih2 _ _ _ _ _ _)
      | (with_reducible exact miradorlaw15_works.mono _)
      | (with_reducible exact miradorref15_Same.mono _ _ _)
      | (with_reducible exact region_Area.mono _ _)
      | (with_reducible exact LeO.refl _)
      | (with_reducible exact LeO.none _)
      | (with_reducible refine LeO.ite ?_ ?_)
      | (with_reducible refine LeO.bind ?_ (fun _ => ?_))
      | exact ih0 _ _ _ _ _
      | exact ih1 _ _ _ _ _ _ _ _ _ _
      | exact ih2 _ _ _ _ _ _
      | exact miradorlaw15_works.mono _
      | exact miradorref15_Same.mono _ _ _
      | exact region_Area.mono _ _
      | exact LeO.none _
      | refine LeO.ite ?_ ?_
      | refine LeO.bind ?_ (fun _ => ?_)
    · intro y0 y1 y2 y3 y4 y5
      unfold miradorlaw15_RegionForm.l1
      repeat' first
      | (with_reducible exact ih0 _ _ _ _ _)
      | (with_reducible exact ih1 _ _ _ _ _ _ _ _ _ _)
      | (with_reducible exact ih2 _ _ _ _ _ _)
      | (with_reducible exact miradorlaw15_works.mono _)
      | (with_reducible exact miradorref15_Same.mono _ _ _)
      | (with_reducible exact region_Area.mono _ _)
      | (with_reducible exact LeO.refl _)
      | (with_reducible exact LeO.none _)
      | (with_reducible refine LeO.ite ?_ ?_)
      | (with_reducible refine LeO.bind ?_ (fun _ => ?_))
      | exact ih0 _ _ _ _ _
      | exact ih1 _ _ _ _ _ _ _ _ _ _
      | exact ih2 _ _ _ _ _ _
      | exact miradorlaw15_works.mono _
      | exact miradorref15_Same.mono _ _ _
      | exact region_Area.mono _ _
      | exact LeO.none _
      | refine LeO.ite ?_ ?_
      | refine LeO.bind ?_ (fun _ => ?_)
theorem miradorlaw15_RegionForm.mono : ∀ a0 k, LeO (miradorlaw15_RegionForm.f k a0) (miradorlaw15_RegionForm.f (k + 1) a0) := by
  intro a0 k
  obtain ⟨ih0, ih1, ih2⟩ := miradorlaw15_RegionForm.mono_l k
  unfold miradorlaw15_RegionForm.f
  repeat' first
      | (with_reducible exact ih0 _ _ _ _ _)
      | (with_reducible exact ih1 _ _ _ _ _ _ _ _ _ _)
      | (with_reducible exact ih2 _ _ _ _ _ _)
      | (with_reducible exact miradorlaw15_works.mono _)
      | (with_reducible exact miradorref15_Same.mono _ _ _)
      | (with_reducible exact region_Area.mono _ _)
      | (with_reducible exact LeO.refl _)
      | (with_reducible exact LeO.none _)
      | (with_reducible refine LeO.ite ?_ ?_)
      | (with_reducible refine LeO.bind ?_ (fun _ => ?_))
      | exact ih0 _ _ _ _ _
      | exact ih1 _ _ _ _ _ _ _ _ _ _
      | exact ih2 _ _ _ _ _ _
      | exact miradorlaw15_works.mono _
      | exact miradorref15_Same.mono _ _ _
      | exact region_Area.mono _ _
      | exact LeO.none _
      | refine LeO.ite ?_ ?_
      | refine LeO.bind ?_ (fun _ => ?_)
def miradorlaw15_RegionForm.T23 : Bool × List (List Nat × List Nat) := (true, [([], []), ([], []), ([], []), ([1, 2], [1, 2]), ([3], [3]), ([], []), ([], []), ([5, 6], [5, 6]), ([7], [7]), ([4, 8], [4, 8]), ([0, 9], [0, 9]), ([10, 10, 0, 1, 2, 3, 4, 5, 6, 7, 8, 9, 10], [0, 10])])
def miradorlaw15_RegionForm.B23 : List Nat := [0, 0, 0, 6, 14, 0, 0, 96, 224, 510, 1023, 2047]
theorem miradorlaw15_RegionForm.tab23 : rtab .any (opsOf Try.f3 23) = miradorlaw15_RegionForm.T23 := by kernel_rfl
theorem miradorlaw15_RegionForm.bits23 : waitsOk miradorlaw15_RegionForm.T23.2 miradorlaw15_RegionForm.B23 = true := by kernel_rfl
set_option maxHeartbeats 8000000 in
set_option maxRecDepth 100000 in
theorem miradorlaw15_RegionForm.calls1 (k : Nat) (A0 : Option Addr) (c0 : Nat) (l0 : List (S26)) (r : Bool) (w : World) (hr0 : Kd.C k26 w A0 l0.length l0) (hc0 : l0.length ≤ c0) (hr_ : r = true) (h : miradorlaw15_RegionForm.f k l0 = some r) :
    Calls Try.prog 3 #[.slice A0 l0.length c0] w fun e w' => e = .returned (.bool r) ∧ Below w.heap.size w w' := by
  have hu26 := Try.underlying26
  have HR0 := Aside0.mk hr0
  have HC0 := Aside0.mk hc0
  clear hr0 hc0
  have HB := Aside0.mk (Below.refl w.heap.size w)
  have H : ((miradorlaw15_works.f k).bind fun t295 => (if t295 = true then (if (l0.length : Int) > 12 then (some t295) else ((region_Make.f l0).bind fun t296 => (miradorlaw15_RegionForm.l0 k l0 t295 t296 0 0))) else (some false))) = some r := h
  clear h
  have HRT := Aside0.mk hr_
  clear hr_
  replace H := Option.bind_eq_some_iff.mp H
  obtain ⟨t295, A20, H⟩ := H
  replace H : (if t295 = true then (if (l0.length : Int) > 12 then (some t295) else ((region_Make.f l0).bind fun t296 => (miradorlaw15_RegionForm.l0 k l0 t295 t296 0 0))) else (some false)) = some r := H
  have A2 := Aside0.mk A20
  clear A20
  by_cases c3 : t295 = true
  · subst c3
    have H1 : (if (l0.length : Int) > 12 then (some true) else ((region_Make.f l0).bind fun t296 => (miradorlaw15_RegionForm.l0 k l0 true t296 0 0))) = some r := by rw [if_pos rfl] at H; exact H
    clear H
    have H := H1
    clear H1
    by_cases c4 : (l0.length : Int) > 12
    · rw [if_pos c4] at H
      have c4b0 : decide (12 < (l0.length : Int)) = true := decide_eq_true c4
      have c4b1 : decide (12 < l0.length) = true := decide_eq_true (by omega)
      clear c4
      obtain rfl := Option.some.inj H
      go_enter Try.func3, Try.ntmps3
      go_wp2_with (first | ((with_reducible refine gate_callee (f := 10) rfl ?_); refine goesL_ (some 13) rfl rfl Try.func10 (by kernel_rfl) rfl #[] rfl (by (try simp only [List.map_toArray, List.map_cons, List.map_nil]); first | done | rfl | (simp only [List.length_drop, List.length_take]; rfl)) ?_; (with_reducible refine (miradorlaw15_works.calls k  true _ A2.out).mono ?_); rintro e w5 ⟨rfl, hb⟩; refine ⟨_, rfl, ?_⟩; have n0_ := Aside0.mk (below_step (by repeat (first | (with_reducible first | exact HB.out | apply below_alloc | apply pw_below_drewN | apply below_drew1) | exact HB.out)) hb); clear HB; have HB := n0_; clear n0_; (try clear hb); (try clear hb2); (try clear hk); (try clear hi)))
      go_ret
      exact ⟨by first | rfl | (simp [errW_none, errW_some] <;> rfl) | (simp [*, errW_none, errW_some] <;> rfl), by repeat (first | (with_reducible first | exact HB.out | apply below_alloc | apply pw_below_drewN | apply below_drew1) | exact HB.out)⟩
    · rw [if_neg c4] at H
      have c4b0 : decide (12 < (l0.length : Int)) = false := decide_eq_false c4
      have c4b1 : decide (12 < l0.length) = false := decide_eq_false (by omega)
      clear c4
      replace H := Option.bind_eq_some_iff.mp H
      obtain ⟨t296, A60, H⟩ := H
      replace H : (miradorlaw15_RegionForm.l0 k l0 true t296 0 0) = some r := H
      have A6 := Aside0.mk A60
      clear A60
      have H' := Aside0.mk H
      clear H
      go_enter Try.func3, Try.ntmps3
      go_wp2_with (first | ((with_reducible refine gate_callee (f := 10) rfl ?_); refine goesL_ (some 13) rfl rfl Try.func10 (by kernel_rfl) rfl #[] rfl (by (try simp only [List.map_toArray, List.map_cons, List.map_nil]); first | done | rfl | (simp only [List.length_drop, List.length_take]; rfl)) ?_; (with_reducible refine (miradorlaw15_works.calls k  true _ A2.out).mono ?_); rintro e w7 ⟨rfl, hb⟩; refine ⟨_, rfl, ?_⟩; have n0_ := Aside0.mk (below_step (by repeat (first | (with_reducible first | exact HB.out | apply below_alloc | apply pw_below_drewN | apply below_drew1) | exact HB.out)) hb); clear HB; have HB := n0_; clear n0_; (try clear hb); (try clear hb2); (try clear hk); (try clear hi)) | ((with_reducible refine gate_callee (f := 11) rfl ?_); refine goesL_ (some 21) rfl rfl Try.func11 (by kernel_rfl) rfl #[.slice A0 l0.length c0] rfl (by (try simp only [List.map_toArray, List.map_cons, List.map_nil]); first | done | rfl | (simp only [List.length_drop, List.length_take]; rfl)) ?_; (with_reducible refine (region_Make.calls _ _ l0 t296 _ ?side1 ?side2 A6.out).mono ?_); (case side1 => repeat (first | exact (Kd.C_below HR0.out HB.out) | (with_reducible refine Kd.C_alloc ?_ _) | (with_reducible refine Kd.C_drewN ?_ _) | (with_reducible refine Kd.C_drew ?_))); (case side2 => exact HC0.out); rintro e w8 ⟨v297, rfl, ho0, hb⟩; refine ⟨_, rfl, ?_⟩; have n0_ := Aside0.mk (Kd.R_lower ho0 (below_size (by repeat (first | (with_reducible first | exact HB.out | apply below_alloc | apply pw_below_drewN | apply below_drew1) | exact HB.out)))); have n1_ := Aside0.mk (below_step (by repeat (first | (with_reducible first | exact HB.out | apply below_alloc | apply pw_below_drewN | apply below_drew1) | exact HB.out)) hb); clear HB; have HO298 := n0_; have HB := n1_; clear n0_ n1_; (try clear hb); (try clear hb2); (try clear hk); (try clear hi); (try clear ho0)))
      go_loopg [5, 6] k (fun kq v5 v6 w' => ∃ (x5_1 : Int) (x6_1 : Int), v5 = .int .i64 x5_1 ∧ v6 = .int .i64 x6_1 ∧ Aside0 (miradorlaw15_RegionForm.l0 kq l0 true t296 x5_1 x6_1 = some r) ∧ Aside0 (kq ≤ k) ∧ Aside0 (Kd.R k26 26 w' w.heap.size (fun _ => True) v297 t296) ∧ Aside0 (Below w.heap.size w w'))
      case atStart => exact ⟨(0), (0), (by first | rfl | (simp; done) | (simp [*]; done)), (by first | rfl | (simp; done) | (simp [*]; done)), H', ⟨Nat.le_refl _⟩, ⟨by (with_reducible repeat (first | apply Kd.R_alloc | apply Kd.R_drewN | apply Kd.R_drew)); exact HO298.out⟩, ⟨by repeat (first | (with_reducible first | exact HB.out | apply below_alloc | apply pw_below_drewN | apply below_drew1) | exact HB.out)⟩⟩
      case round =>
        clear H'
        try clear c1
        try clear p2
        try clear c3
        try clear c4
        try clear c4b0
        try clear c4b1
        obtain ⟨x5_1, x6_1, rfl, rfl, HA, HK1, HO_4, HB⟩ := hrel
        cases gk with
        | zero => exact absurd HA.out (by simp [miradorlaw15_RegionForm.l0])
        | succ k1 =>
          have H := HA.out
          clear HA
          simp only [miradorlaw15_RegionForm.l0] at H
          by_cases c9 : x6_1 < (t296.length : Int)
          · rw [if_pos c9] at H
            have c9b0 : decide (x6_1 < (t296.length : Int)) = true := decide_eq_true c9
            clear c9
            by_cases c10 : 0 ≤ x6_1
            · rw [if_pos c10] at H
              have c10b0 : decide (0 ≤ x6_1) = true := decide_eq_true c10
              clear c10
              have HC11 := Aside0.mk H
              clear H
              obtain ⟨Ao12, co12, eo12⟩ := Kd.R_slice HO_4.out
              subst eo12
              have p299 : 0 ≤ (x6_1 : Int) := of_decide_eq_true (by first | (with_reducible assumption) | assumption)
              have q299 : x6_1 < (t296.length : Int) := of_decide_eq_true (by first | (with_reducible assumption) | assumption)
              obtain ⟨ad299, e299, hx299_0, hx299_1, hx299_2, hx299_3⟩ := at_T26 (Kd.R_reads' HO_4.out).2.2 x6_1 p299 q299
              cases e299
              replace p299 := eq_true p299
              replace q299 := eq_true q299
              go_upto_region 12 with (first | ((with_reducible refine gate_dst (N := 7) rfl ?_); refine box_event ?hg (N := 7) ?hd (cs := #[.int .i64 0, .int .i64 0, .int .i64 0, .int .i64 0]) (t := 26) ?hr ?_; (case hd => rfl); (case hg => rfl); (case hr => first | (go_simp; done) | (go_simp; rfl)); intro gb300 hg w13 hbox hb; have n0_ := Aside0.mk (Kd.R_below (Kd.R_elderB (by (with_reducible repeat (first | apply Kd.R_alloc | apply Kd.R_drewN | apply Kd.R_drew)); exact HO_4.out) gb300 (Nat.le_of_eq hg.symm)) hb); have n1_ := Aside0.mk (below_step (by repeat (first | (with_reducible first | exact HB.out | apply below_alloc | apply pw_below_drewN | apply below_drew1) | exact HB.out)) hb); have n2_ := Aside0.mk (hbox); have n3_ := Aside0.mk ((by rw [hg]; exact (below_size (by repeat (first | (with_reducible first | exact HB.out | apply below_alloc | apply pw_below_drewN | apply below_drew1) | exact HB.out))) : w.heap.size ≤ gb300)); have n4_ := Aside0.mk ((by rw [hg]; exact (below_size (by repeat (first | (with_reducible first | exact HB.out | apply below_alloc | apply pw_below_drewN | apply below_drew1) | exact HB.out))) : w.heap.size ≤ gb300)); clear HO_4; clear HB; have HO_4 := n0_; have HB := n1_; have BK300 := n2_; have GW300 := n3_; have GE300 := n4_; clear n0_ n1_ n2_ n3_ n4_; clear hb hbox hg; have hcz14_0 : w13.cell? ⟨gb300, 0, none⟩ = some (.int .i64 0) := (blk_cell BK300.out 0).trans rfl; have hcz14_1 : w13.cell? ⟨gb300, 1, none⟩ = some (.int .i64 0) := (blk_cell BK300.out 1).trans rfl; have hcz14_2 : w13.cell? ⟨gb300, 2, none⟩ = some (.int .i64 0) := (blk_cell BK300.out 2).trans rfl; have hcz14_3 : w13.cell? ⟨gb300, 3, none⟩ = some (.int .i64 0) := (blk_cell BK300.out 3).trans rfl; have hfz14_0 := blk_frozen BK300.out 0; have hfz14_1 := blk_frozen BK300.out 1; have hfz14_2 := blk_frozen BK300.out 2; have hfz14_3 := blk_frozen BK300.out 3))
              (try simp only [Act.put, List.setIfInBounds_toArray, List.set_cons_zero, List.set_cons_succ])
              go_cut [39] (fun v39 wc => ∃ (kq : Nat) (x39_10 : Bool), v39 = .bool x39_10 ∧ Aside0 (miradorlaw15_RegionForm.j1 kq l0 true t296 x5_1 x6_1 x39_10 ((rd_T26 t296 x6_1).f0) ((rd_T26 t296 x6_1).f1) ((rd_T26 t296 x6_1).f2) ((rd_T26 t296 x6_1).f3) = some r) ∧ Aside0 (kq ≤ k1) ∧ Aside0 (Kd.R k26 26 wc w.heap.size (fun k_ => k_ ≠ gb300) (.slice (some ad299) t296.length co12) t296) ∧ Aside0 (wc.heap[gb300]? = some (.cells #[.int .i64 ((rd_T26 t296 x6_1).f0), .int .i64 ((rd_T26 t296 x6_1).f1), .int .i64 ((rd_T26 t296 x6_1).f2), .int .i64 ((rd_T26 t296 x6_1).f3)] 26 (0, 0))) ∧ Aside0 (Below w.heap.size w wc))
              case first =>
                have H := HC11.out
                clear HC11
                by_cases c15 : ((rd_T26 t296 x6_1).f2) < 1
                · rw [if_pos c15] at H
                  have c15b0 : decide (((rd_T26 t296 x6_1).f2) < 1) = true := decide_eq_true c15
                  clear c15
                  (first | rw [c15b0] | (simp only [i64_w, i32_w]; rw [c15b0]) | skip)
                  have H' := Aside0.mk H
                  clear H
                  have hcz16_0 : w13.cell? ⟨gb300, 0, none⟩ = some (.int .i64 0) := (blk_cell BK300.out 0).trans rfl
                  have hcz16_1 : w13.cell? ⟨gb300, 1, none⟩ = some (.int .i64 0) := (blk_cell BK300.out 1).trans rfl
                  have hcz16_2 : w13.cell? ⟨gb300, 2, none⟩ = some (.int .i64 0) := (blk_cell BK300.out 2).trans rfl
                  have hcz16_3 : w13.cell? ⟨gb300, 3, none⟩ = some (.int .i64 0) := (blk_cell BK300.out 3).trans rfl
                  have hfz16_0 := blk_frozen BK300.out 0
                  have hfz16_1 := blk_frozen BK300.out 1
                  have hfz16_2 := blk_frozen BK300.out 2
                  have hfz16_3 := blk_frozen BK300.out 3
                  go_wp2
                  go_meet
                  case rel => exact ⟨_, (true), (by first | rfl | (simp; done) | (simp [*]; done)), H', ⟨by have := HK1.out; first | omega | exact Nat.le_refl _⟩, ⟨by (with_reducible repeat (first | apply Kd.R_alloc | apply Kd.R_drewN | apply Kd.R_drew)); exact Kd.R_mono (Kd.R_far (p := ⟨gb300, 3, none⟩) (Kd.R_far (p := ⟨gb300, 2, none⟩) (Kd.R_far (p := ⟨gb300, 1, none⟩) (Kd.R_far (p := ⟨gb300, 0, none⟩) (Kd.R_mono HO_4.out (fun k_ hk => (⟨hk, hk.2⟩ : _ ∧ k_ ≠ gb300))) (fun _ hk => hk.2) (.int .i64 ((rd_T26 t296 x6_1).f0))) (fun _ hk => hk.2) (.int .i64 ((rd_T26 t296 x6_1).f1))) (fun _ hk => hk.2) (.int .i64 ((rd_T26 t296 x6_1).f2))) (fun _ hk => hk.2) (.int .i64 ((rd_T26 t296 x6_1).f3))) (fun _ hk => hk.1.2)⟩, ⟨by (with_reducible repeat (first | refine blk_drewN ?_ _ | refine blk_drew ?_ | refine blk_alloc ?_ _)); refine blk_put (cs := #[.int .i64 ((rd_T26 t296 x6_1).f0), .int .i64 ((rd_T26 t296 x6_1).f1), .int .i64 ((rd_T26 t296 x6_1).f2), .int .i64 0]) ?_ 3 _ rfl; (with_reducible repeat (first | refine blk_drewN ?_ _ | refine blk_drew ?_ | refine blk_alloc ?_ _)); refine blk_put (cs := #[.int .i64 ((rd_T26 t296 x6_1).f0), .int .i64 ((rd_T26 t296 x6_1).f1), .int .i64 0, .int .i64 0]) ?_ 2 _ rfl; (with_reducible repeat (first | refine blk_drewN ?_ _ | refine blk_drew ?_ | refine blk_alloc ?_ _)); refine blk_put (cs := #[.int .i64 ((rd_T26 t296 x6_1).f0), .int .i64 0, .int .i64 0, .int .i64 0]) ?_ 1 _ rfl; (with_reducible repeat (first | refine blk_drewN ?_ _ | refine blk_drew ?_ | refine blk_alloc ?_ _)); refine blk_put (cs := #[.int .i64 0, .int .i64 0, .int .i64 0, .int .i64 0]) ?_ 0 _ rfl; (with_reducible repeat (first | refine blk_drewN ?_ _ | refine blk_drew ?_ | refine blk_alloc ?_ _)); exact BK300.out⟩, ⟨by repeat (first | (with_reducible first | exact HB.out | apply below_alloc | apply pw_below_drewN | apply below_drew1 | refine below_set ?_ GE300.out) | exact HB.out)⟩⟩
                · rw [if_neg c15] at H
                  have c15b0 : decide (((rd_T26 t296 x6_1).f2) < 1) = false := decide_eq_false c15
                  clear c15
                  (first | rw [c15b0] | (simp only [i64_w, i32_w]; rw [c15b0]) | skip)
                  have H' := Aside0.mk H
                  clear H
                  have hcz17_0 : w13.cell? ⟨gb300, 0, none⟩ = some (.int .i64 0) := (blk_cell BK300.out 0).trans rfl
                  have hcz17_1 : w13.cell? ⟨gb300, 1, none⟩ = some (.int .i64 0) := (blk_cell BK300.out 1).trans rfl
                  have hcz17_2 : w13.cell? ⟨gb300, 2, none⟩ = some (.int .i64 0) := (blk_cell BK300.out 2).trans rfl
                  have hcz17_3 : w13.cell? ⟨gb300, 3, none⟩ = some (.int .i64 0) := (blk_cell BK300.out 3).trans rfl
                  have hfz17_0 := blk_frozen BK300.out 0
                  have hfz17_1 := blk_frozen BK300.out 1
                  have hfz17_2 := blk_frozen BK300.out 2
                  have hfz17_3 := blk_frozen BK300.out 3
                  go_wp2
                  go_meet
                  case rel => exact ⟨_, (decide (((rd_T26 t296 x6_1).f3) < 1)), (by first | rfl | (simp; done) | (simp [*]; done)), H', ⟨by have := HK1.out; first | omega | exact Nat.le_refl _⟩, ⟨by (with_reducible repeat (first | apply Kd.R_alloc | apply Kd.R_drewN | apply Kd.R_drew)); exact Kd.R_mono (Kd.R_far (p := ⟨gb300, 3, none⟩) (Kd.R_far (p := ⟨gb300, 2, none⟩) (Kd.R_far (p := ⟨gb300, 1, none⟩) (Kd.R_far (p := ⟨gb300, 0, none⟩) (Kd.R_mono HO_4.out (fun k_ hk => (⟨hk, hk.2⟩ : _ ∧ k_ ≠ gb300))) (fun _ hk => hk.2) (.int .i64 ((rd_T26 t296 x6_1).f0))) (fun _ hk => hk.2) (.int .i64 ((rd_T26 t296 x6_1).f1))) (fun _ hk => hk.2) (.int .i64 ((rd_T26 t296 x6_1).f2))) (fun _ hk => hk.2) (.int .i64 ((rd_T26 t296 x6_1).f3))) (fun _ hk => hk.1.2)⟩, ⟨by (with_reducible repeat (first | refine blk_drewN ?_ _ | refine blk_drew ?_ | refine blk_alloc ?_ _)); refine blk_put (cs := #[.int .i64 ((rd_T26 t296 x6_1).f0), .int .i64 ((rd_T26 t296 x6_1).f1), .int .i64 ((rd_T26 t296 x6_1).f2), .int .i64 0]) ?_ 3 _ rfl; (with_reducible repeat (first | refine blk_drewN ?_ _ | refine blk_drew ?_ | refine blk_alloc ?_ _)); refine blk_put (cs := #[.int .i64 ((rd_T26 t296 x6_1).f0), .int .i64 ((rd_T26 t296 x6_1).f1), .int .i64 0, .int .i64 0]) ?_ 2 _ rfl; (with_reducible repeat (first | refine blk_drewN ?_ _ | refine blk_drew ?_ | refine blk_alloc ?_ _)); refine blk_put (cs := #[.int .i64 ((rd_T26 t296 x6_1).f0), .int .i64 0, .int .i64 0, .int .i64 0]) ?_ 1 _ rfl; (with_reducible repeat (first | refine blk_drewN ?_ _ | refine blk_drew ?_ | refine blk_alloc ?_ _)); refine blk_put (cs := #[.int .i64 0, .int .i64 0, .int .i64 0, .int .i64 0]) ?_ 0 _ rfl; (with_reducible repeat (first | refine blk_drewN ?_ _ | refine blk_drew ?_ | refine blk_alloc ?_ _)); exact BK300.out⟩, ⟨by repeat (first | (with_reducible first | exact HB.out | apply below_alloc | apply pw_below_drewN | apply below_drew1 | refine below_set ?_ GE300.out) | exact HB.out)⟩⟩
              case rest =>
                clear HC11
                try clear c1
                try clear p2
                try clear q2
                try clear hx2
                try clear c3
                try clear c4
                try clear c4b0
                try clear c4b1
                try clear c9
                try clear c9b0
                try clear c10
                try clear c10b0
                try clear c11
                try clear c15
                try clear c15b0
                try clear hcz14_0
                try clear hcz14_1
                try clear hcz14_2
                try clear hcz14_3
                try clear hcz16_0
                try clear hcz16_1
                try clear hcz16_2
                try clear hcz16_3
                try clear hcz17_0
                try clear hcz17_1
                try clear hcz17_2
                try clear hcz17_3
                try clear hfz14_0
                try clear hfz14_1
                try clear hfz14_2
                try clear hfz14_3
                try clear hfz16_0
                try clear hfz16_1
                try clear hfz16_2
                try clear hfz16_3
                try clear hfz17_0
                try clear hfz17_1
                try clear hfz17_2
                try clear hfz17_3
                try clear hx299_0
                try clear hx299_1
                try clear hx299_2
                try clear hx299_3
                try clear p2
                try clear p299
                try clear q299
                obtain ⟨kq, x39_10, rfl, HA, HJ10, HO_4, BK300, HB⟩ := hcut
                cases kq with
                | zero => exact absurd HA.out (by simp [miradorlaw15_RegionForm.j1])
                | succ kj10 =>
                  have H := HA.out
                  clear HA
                  simp only [miradorlaw15_RegionForm.j1] at H
                  by_cases c18 : x39_10 = true
                  · subst c18
                    have H1 : (some false) = some r := by rw [if_pos rfl] at H; exact H
                    clear H
                    have H := H1
                    clear H1
                    rw [HRT.out] at H
                    exact absurd (Option.some.inj H) (by decide)
                  · replace c18 := Bool.eq_false_iff.mpr c18
                    subst c18
                    have H1 : (if x6_1 = 0 then (miradorlaw15_RegionForm.l0 kj10 l0 true t296 (wrap64 (x5_1 + (wrap64 (((rd_T26 t296 x6_1).f2) * ((rd_T26 t296 x6_1).f3))))) (wrap64 (x6_1 + 1))) else (if 0 ≤ (wrap64 (x6_1 - 1)) then (if (wrap64 (x6_1 - 1)) < (t296.length : Int) then (if ((rd_T26 t296 (wrap64 (x6_1 - 1))).f1) = ((rd_T26 t296 x6_1).f1) then (if ((rd_T26 t296 (wrap64 (x6_1 - 1))).f3) = ((rd_T26 t296 x6_1).f3) then (if (wrap64 (((rd_T26 t296 (wrap64 (x6_1 - 1))).f0) + ((rd_T26 t296 (wrap64 (x6_1 - 1))).f2))) ≥ ((rd_T26 t296 x6_1).f0) then (some false) else (miradorlaw15_RegionForm.l0 kj10 l0 true t296 (wrap64 (x5_1 + (wrap64 (((rd_T26 t296 x6_1).f2) * ((rd_T26 t296 x6_1).f3))))) (wrap64 (x6_1 + 1)))) else (some false)) else (if (wrap64 (((rd_T26 t296 (wrap64 (x6_1 - 1))).f1) + ((rd_T26 t296 (wrap64 (x6_1 - 1))).f3))) > ((rd_T26 t296 x6_1).f1) then (some false) else (miradorlaw15_RegionForm.l0 kj10 l0 true t296 (wrap64 (x5_1 + (wrap64 (((rd_T26 t296 x6_1).f2) * ((rd_T26 t296 x6_1).f3))))) (wrap64 (x6_1 + 1))))) else (none)) else (none))) = some r := by rw [if_neg (show ¬ (false = true) by decide)] at H; exact H
                    clear H
                    have H := H1
                    clear H1
                    by_cases c19 : x6_1 = 0
                    · rw [if_pos c19] at H
                      have c19b0 : (x6_1 == 0) = true := beq_iff_eq.mpr c19
                      have c19b1 : (x6_1 != 0) = false := bne_eq_false_iff_eq.mpr c19
                      clear c19
                      have H' := Aside0.mk H
                      clear H
                      have hcz20_0 : wc.cell? ⟨gb300, 0, none⟩ = some (.int .i64 ((rd_T26 t296 x6_1).f0)) := (blk_cell BK300.out 0).trans rfl
                      have hcz20_1 : wc.cell? ⟨gb300, 1, none⟩ = some (.int .i64 ((rd_T26 t296 x6_1).f1)) := (blk_cell BK300.out 1).trans rfl
                      have hcz20_2 : wc.cell? ⟨gb300, 2, none⟩ = some (.int .i64 ((rd_T26 t296 x6_1).f2)) := (blk_cell BK300.out 2).trans rfl
                      have hcz20_3 : wc.cell? ⟨gb300, 3, none⟩ = some (.int .i64 ((rd_T26 t296 x6_1).f3)) := (blk_cell BK300.out 3).trans rfl
                      have hfz20_0 := blk_frozen BK300.out 0
                      have hfz20_1 := blk_frozen BK300.out 1
                      have hfz20_2 := blk_frozen BK300.out 2
                      have hfz20_3 := blk_frozen BK300.out 3
                      go_wp2
                      go_roundg kj10
                      case measure => have := HK1.out; have := HJ10.out; omega
                      case rel => exact ⟨(wrap64 (x5_1 + (wrap64 (((rd_T26 t296 x6_1).f2) * ((rd_T26 t296 x6_1).f3))))), (wrap64 (x6_1 + 1)), (by first | rfl | (simp; done) | (simp [*]; done)), (by first | rfl | (simp; done) | (simp [*]; done)), H', ⟨by have := HK1.out; have := HJ10.out; omega⟩, ⟨by (with_reducible repeat (first | apply Kd.R_alloc | apply Kd.R_drewN | apply Kd.R_drew)); exact Kd.R_mono HO_4.out (fun _ hk => trivial)⟩, ⟨by repeat (first | (with_reducible first | exact HB.out | apply below_alloc | apply pw_below_drewN | apply below_drew1 | refine below_set ?_ GE300.out) | exact HB.out)⟩⟩
                    · rw [if_neg c19] at H
                      have c19b0 : (x6_1 == 0) = false := beq_eq_false_iff_ne.mpr c19
                      have c19b1 : (x6_1 != 0) = true := bne_iff_ne.mpr c19
                      obtain ⟨ji21, hji21⟩ : ∃ j_ : Int, (wrap64 (x6_1 - 1)) = j_ := ⟨_, rfl⟩
                      replace H : (if 0 ≤ (ji21) then (if (ji21) < (t296.length : Int) then (if ((rd_T26 t296 (ji21)).f1) = ((rd_T26 t296 x6_1).f1) then (if ((rd_T26 t296 (ji21)).f3) = ((rd_T26 t296 x6_1).f3) then (if (wrap64 (((rd_T26 t296 (ji21)).f0) + ((rd_T26 t296 (ji21)).f2))) ≥ ((rd_T26 t296 x6_1).f0) then (some false) else (miradorlaw15_RegionForm.l0 kj10 l0 true t296 (wrap64 (x5_1 + (wrap64 (((rd_T26 t296 x6_1).f2) * ((rd_T26 t296 x6_1).f3))))) (wrap64 (x6_1 + 1)))) else (some false)) else (if (wrap64 (((rd_T26 t296 (ji21)).f1) + ((rd_T26 t296 (ji21)).f3))) > ((rd_T26 t296 x6_1).f1) then (some false) else (miradorlaw15_RegionForm.l0 kj10 l0 true t296 (wrap64 (x5_1 + (wrap64 (((rd_T26 t296 x6_1).f2) * ((rd_T26 t296 x6_1).f3))))) (wrap64 (x6_1 + 1))))) else (none)) else (none)) = some r := by first | (rw [hji21] at H; exact H) | (simp only [hji21] at H ⊢; exact H)
                      have hji21w : (IntKind.i64.wrap (x6_1 - 1)) = ji21 := (i64_w _).trans hji21
                      by_cases c22 : 0 ≤ (ji21)
                      · rw [if_pos c22] at H
                        have c22b0 : decide (0 ≤ (ji21)) = true := decide_eq_true c22
                        clear c22
                        by_cases c23 : (ji21) < (t296.length : Int)
                        · rw [if_pos c23] at H
                          have c23b0 : decide ((ji21) < (t296.length : Int)) = true := decide_eq_true c23
                          clear c23
                          by_cases c24 : ((rd_T26 t296 (ji21)).f1) = ((rd_T26 t296 x6_1).f1)
                          · rw [if_pos c24] at H
                            have c24b0 : (((rd_T26 t296 (ji21)).f1) == ((rd_T26 t296 x6_1).f1)) = true := beq_iff_eq.mpr c24
                            have c24b1 : (((rd_T26 t296 (ji21)).f1) != ((rd_T26 t296 x6_1).f1)) = false := bne_eq_false_iff_eq.mpr c24
                            clear c24
                            by_cases c25 : ((rd_T26 t296 (ji21)).f3) = ((rd_T26 t296 x6_1).f3)
                            · rw [if_pos c25] at H
                              have c25b0 : (((rd_T26 t296 (ji21)).f3) == ((rd_T26 t296 x6_1).f3)) = true := beq_iff_eq.mpr c25
                              have c25b1 : (((rd_T26 t296 (ji21)).f3) != ((rd_T26 t296 x6_1).f3)) = false := bne_eq_false_iff_eq.mpr c25
                              clear c25
                              by_cases c26 : (wrap64 (((rd_T26 t296 (ji21)).f0) + ((rd_T26 t296 (ji21)).f2))) ≥ ((rd_T26 t296 x6_1).f0)
                              · rw [if_pos c26] at H
                                have c26b0 : decide (((rd_T26 t296 x6_1).f0) ≤ (wrap64 (((rd_T26 t296 (ji21)).f0) + ((rd_T26 t296 (ji21)).f2)))) = true := decide_eq_true c26
                                clear c26
                                rw [HRT.out] at H
                                exact absurd (Option.some.inj H) (by decide)
                              · rw [if_neg c26] at H
                                have c26b0 : decide (((rd_T26 t296 x6_1).f0) ≤ (wrap64 (((rd_T26 t296 (ji21)).f0) + ((rd_T26 t296 (ji21)).f2)))) = false := decide_eq_false c26
                                clear c26
                                have H' := Aside0.mk H
                                clear H
                                have hcz27_0 : wc.cell? ⟨gb300, 0, none⟩ = some (.int .i64 ((rd_T26 t296 x6_1).f0)) := (blk_cell BK300.out 0).trans rfl
                                have hcz27_1 : wc.cell? ⟨gb300, 1, none⟩ = some (.int .i64 ((rd_T26 t296 x6_1).f1)) := (blk_cell BK300.out 1).trans rfl
                                have hcz27_2 : wc.cell? ⟨gb300, 2, none⟩ = some (.int .i64 ((rd_T26 t296 x6_1).f2)) := (blk_cell BK300.out 2).trans rfl
                                have hcz27_3 : wc.cell? ⟨gb300, 3, none⟩ = some (.int .i64 ((rd_T26 t296 x6_1).f3)) := (blk_cell BK300.out 3).trans rfl
                                have hfz27_0 := blk_frozen BK300.out 0
                                have hfz27_1 := blk_frozen BK300.out 1
                                have hfz27_2 := blk_frozen BK300.out 2
                                have hfz27_3 := blk_frozen BK300.out 3
                                have p301 : 0 ≤ ((ji21) : Int) := of_decide_eq_true (by first | (with_reducible assumption) | assumption)
                                have q301 : (ji21) < (t296.length : Int) := of_decide_eq_true (by first | (with_reducible assumption) | assumption)
                                obtain ⟨ad301, e301, hx301_0, hx301_1, hx301_2, hx301_3⟩ := at_T26 (Kd.R_reads' HO_4.out).2.2 (ji21) p301 q301
                                obtain rfl : ad299 = ad301 := (by injection e301)
                                replace p301 := eq_true p301
                                replace q301 := eq_true q301
                                go_wp2_with (first | ((with_reducible refine gate_dst (N := 8) rfl ?_); refine box_event ?hg (N := 8) ?hd (cs := #[.int .i64 0, .int .i64 0, .int .i64 0, .int .i64 0]) (t := 26) ?hr ?_; (case hd => rfl); (case hg => rfl); (case hr => first | (go_simp; done) | (go_simp; rfl)); intro gb302 hg w28 hbox hb; have n0_ := Aside0.mk (Kd.R_below (Kd.R_elderB (by (with_reducible repeat (first | apply Kd.R_alloc | apply Kd.R_drewN | apply Kd.R_drew)); exact HO_4.out) gb302 (Nat.le_of_eq hg.symm)) hb); have n1_ := Aside0.mk (blk_below (g := gb300) (o := .cells #[.int .i64 ((rd_T26 t296 x6_1).f0), .int .i64 ((rd_T26 t296 x6_1).f1), .int .i64 ((rd_T26 t296 x6_1).f2), .int .i64 ((rd_T26 t296 x6_1).f3)] 26 (0, 0)) (by (with_reducible repeat (first | refine blk_drewN ?_ _ | refine blk_drew ?_ | refine blk_alloc ?_ _)); exact BK300.out) hb); have n2_ := Aside0.mk (below_step (by repeat (first | (with_reducible first | exact HB.out | apply below_alloc | apply pw_below_drewN | apply below_drew1 | refine below_set ?_ GE300.out) | exact HB.out)) hb); have n3_ := Aside0.mk (hbox); have n4_ := Aside0.mk ((by rw [hg]; exact (below_size (by repeat (first | (with_reducible first | exact HB.out | apply below_alloc | apply pw_below_drewN | apply below_drew1 | refine below_set ?_ GE300.out) | exact HB.out))) : w.heap.size ≤ gb302)); have n5_ := Aside0.mk ((by rw [hg]; exact (below_size (by repeat (first | (with_reducible first | exact HB.out | apply below_alloc | apply pw_below_drewN | apply below_drew1 | refine below_set ?_ GE300.out) | exact HB.out))) : w.heap.size ≤ gb302)); have n6_ := Aside0.mk ((by rw [hg]; exact Nat.ne_of_lt (blk_lt (g := gb300) (o := .cells #[.int .i64 ((rd_T26 t296 x6_1).f0), .int .i64 ((rd_T26 t296 x6_1).f1), .int .i64 ((rd_T26 t296 x6_1).f2), .int .i64 ((rd_T26 t296 x6_1).f3)] 26 (0, 0)) (by (with_reducible repeat (first | refine blk_drewN ?_ _ | refine blk_drew ?_ | refine blk_alloc ?_ _)); exact BK300.out)) : gb300 ≠ gb302)); have n7_ := Aside0.mk ((by rw [hg]; exact Nat.ne_of_gt (blk_lt (g := gb300) (o := .cells #[.int .i64 ((rd_T26 t296 x6_1).f0), .int .i64 ((rd_T26 t296 x6_1).f1), .int .i64 ((rd_T26 t296 x6_1).f2), .int .i64 ((rd_T26 t296 x6_1).f3)] 26 (0, 0)) (by (with_reducible repeat (first | refine blk_drewN ?_ _ | refine blk_drew ?_ | refine blk_alloc ?_ _)); exact BK300.out)) : gb302 ≠ gb300)); clear HO_4; clear BK300; clear HB; have HO_4 := n0_; have BK300 := n1_; have HB := n2_; have BK302 := n3_; have GW302 := n4_; have GE302 := n5_; have NB300_302 := n6_; have NB302_300 := n7_; clear n0_ n1_ n2_ n3_ n4_ n5_ n6_ n7_; clear hb hbox hg; have hnb29 := NB302_300.out; have hnc29 := NB300_302.out; have hcz30_0 : w28.cell? ⟨gb302, 0, none⟩ = some (.int .i64 0) := (blk_cell BK302.out 0).trans rfl; have hcz30_1 : w28.cell? ⟨gb302, 1, none⟩ = some (.int .i64 0) := (blk_cell BK302.out 1).trans rfl; have hcz30_2 : w28.cell? ⟨gb302, 2, none⟩ = some (.int .i64 0) := (blk_cell BK302.out 2).trans rfl; have hcz30_3 : w28.cell? ⟨gb302, 3, none⟩ = some (.int .i64 0) := (blk_cell BK302.out 3).trans rfl; have hfz30_0 := blk_frozen BK302.out 0; have hfz30_1 := blk_frozen BK302.out 1; have hfz30_2 := blk_frozen BK302.out 2; have hfz30_3 := blk_frozen BK302.out 3; have hcz31_0 : w28.cell? ⟨gb300, 0, none⟩ = some (.int .i64 ((rd_T26 t296 x6_1).f0)) := (blk_cell BK300.out 0).trans rfl; have hcz31_1 : w28.cell? ⟨gb300, 1, none⟩ = some (.int .i64 ((rd_T26 t296 x6_1).f1)) := (blk_cell BK300.out 1).trans rfl; have hcz31_2 : w28.cell? ⟨gb300, 2, none⟩ = some (.int .i64 ((rd_T26 t296 x6_1).f2)) := (blk_cell BK300.out 2).trans rfl; have hcz31_3 : w28.cell? ⟨gb300, 3, none⟩ = some (.int .i64 ((rd_T26 t296 x6_1).f3)) := (blk_cell BK300.out 3).trans rfl; have hfz31_0 := blk_frozen BK300.out 0; have hfz31_1 := blk_frozen BK300.out 1; have hfz31_2 := blk_frozen BK300.out 2; have hfz31_3 := blk_frozen BK300.out 3))
                                go_roundg kj10
                                case measure => have := HK1.out; have := HJ10.out; omega
                                case rel => exact ⟨(wrap64 (x5_1 + (wrap64 (((rd_T26 t296 x6_1).f2) * ((rd_T26 t296 x6_1).f3))))), (wrap64 (x6_1 + 1)), (by first | rfl | (simp; done) | (simp [*]; done)), (by first | rfl | (simp; done) | (simp [*]; done)), H', ⟨by have := HK1.out; have := HJ10.out; omega⟩, ⟨by (with_reducible repeat (first | apply Kd.R_alloc | apply Kd.R_drewN | apply Kd.R_drew)); exact Kd.R_mono (Kd.R_far (p := ⟨gb302, 3, none⟩) (Kd.R_far (p := ⟨gb302, 2, none⟩) (Kd.R_far (p := ⟨gb302, 1, none⟩) (Kd.R_far (p := ⟨gb302, 0, none⟩) (Kd.R_mono HO_4.out (fun k_ hk => (⟨hk, hk.2⟩ : _ ∧ k_ ≠ gb302))) (fun _ hk => hk.2) (.int .i64 ((rd_T26 t296 (ji21)).f0))) (fun _ hk => hk.2) (.int .i64 ((rd_T26 t296 (ji21)).f1))) (fun _ hk => hk.2) (.int .i64 ((rd_T26 t296 (ji21)).f2))) (fun _ hk => hk.2) (.int .i64 ((rd_T26 t296 (ji21)).f3))) (fun _ hk => trivial)⟩, ⟨by repeat (first | (with_reducible first | exact HB.out | apply below_alloc | apply pw_below_drewN | apply below_drew1 | refine below_set ?_ GE300.out | refine below_set ?_ GE302.out) | exact HB.out)⟩⟩
                            · rw [if_neg c25] at H
                              have c25b0 : (((rd_T26 t296 (ji21)).f3) == ((rd_T26 t296 x6_1).f3)) = false := beq_eq_false_iff_ne.mpr c25
                              have c25b1 : (((rd_T26 t296 (ji21)).f3) != ((rd_T26 t296 x6_1).f3)) = true := bne_iff_ne.mpr c25
                              rw [HRT.out] at H
                              exact absurd (Option.some.inj H) (by decide)
                          · rw [if_neg c24] at H
                            have c24b0 : (((rd_T26 t296 (ji21)).f1) == ((rd_T26 t296 x6_1).f1)) = false := beq_eq_false_iff_ne.mpr c24
                            have c24b1 : (((rd_T26 t296 (ji21)).f1) != ((rd_T26 t296 x6_1).f1)) = true := bne_iff_ne.mpr c24
                            by_cases c32 : (wrap64 (((rd_T26 t296 (ji21)).f1) + ((rd_T26 t296 (ji21)).f3))) > ((rd_T26 t296 x6_1).f1)
                            · rw [if_pos c32] at H
                              have c32b0 : decide (((rd_T26 t296 x6_1).f1) < (wrap64 (((rd_T26 t296 (ji21)).f1) + ((rd_T26 t296 (ji21)).f3)))) = true := decide_eq_true c32
                              clear c32
                              rw [HRT.out] at H
                              exact absurd (Option.some.inj H) (by decide)
                            · rw [if_neg c32] at H
                              have c32b0 : decide (((rd_T26 t296 x6_1).f1) < (wrap64 (((rd_T26 t296 (ji21)).f1) + ((rd_T26 t296 (ji21)).f3)))) = false := decide_eq_false c32
                              clear c32
                              have H' := Aside0.mk H
                              clear H
                              have hcz33_0 : wc.cell? ⟨gb300, 0, none⟩ = some (.int .i64 ((rd_T26 t296 x6_1).f0)) := (blk_cell BK300.out 0).trans rfl
                              have hcz33_1 : wc.cell? ⟨gb300, 1, none⟩ = some (.int .i64 ((rd_T26 t296 x6_1).f1)) := (blk_cell BK300.out 1).trans rfl
                              have hcz33_2 : wc.cell? ⟨gb300, 2, none⟩ = some (.int .i64 ((rd_T26 t296 x6_1).f2)) := (blk_cell BK300.out 2).trans rfl
                              have hcz33_3 : wc.cell? ⟨gb300, 3, none⟩ = some (.int .i64 ((rd_T26 t296 x6_1).f3)) := (blk_cell BK300.out 3).trans rfl
                              have hfz33_0 := blk_frozen BK300.out 0
                              have hfz33_1 := blk_frozen BK300.out 1
                              have hfz33_2 := blk_frozen BK300.out 2
                              have hfz33_3 := blk_frozen BK300.out 3
                              have p301 : 0 ≤ ((ji21) : Int) := of_decide_eq_true (by first | (with_reducible assumption) | assumption)
                              have q301 : (ji21) < (t296.length : Int) := of_decide_eq_true (by first | (with_reducible assumption) | assumption)
                              obtain ⟨ad301, e301, hx301_0, hx301_1, hx301_2, hx301_3⟩ := at_T26 (Kd.R_reads' HO_4.out).2.2 (ji21) p301 q301
                              obtain rfl : ad299 = ad301 := (by injection e301)
                              replace p301 := eq_true p301
                              replace q301 := eq_true q301
                              go_wp2_with (first | ((with_reducible refine gate_dst (N := 8) rfl ?_); refine box_event ?hg (N := 8) ?hd (cs := #[.int .i64 0, .int .i64 0, .int .i64 0, .int .i64 0]) (t := 26) ?hr ?_; (case hd => rfl); (case hg => rfl); (case hr => first | (go_simp; done) | (go_simp; rfl)); intro gb302 hg w34 hbox hb; have n0_ := Aside0.mk (Kd.R_below (Kd.R_elderB (by (with_reducible repeat (first | apply Kd.R_alloc | apply Kd.R_drewN | apply Kd.R_drew)); exact HO_4.out) gb302 (Nat.le_of_eq hg.symm)) hb); have n1_ := Aside0.mk (blk_below (g := gb300) (o := .cells #[.int .i64 ((rd_T26 t296 x6_1).f0), .int .i64 ((rd_T26 t296 x6_1).f1), .int .i64 ((rd_T26 t296 x6_1).f2), .int .i64 ((rd_T26 t296 x6_1).f3)] 26 (0, 0)) (by (with_reducible repeat (first | refine blk_drewN ?_ _ | refine blk_drew ?_ | refine blk_alloc ?_ _)); exact BK300.out) hb); have n2_ := Aside0.mk (below_step (by repeat (first | (with_reducible first | exact HB.out | apply below_alloc | apply pw_below_drewN | apply below_drew1 | refine below_set ?_ GE300.out) | exact HB.out)) hb); have n3_ := Aside0.mk (hbox); have n4_ := Aside0.mk ((by rw [hg]; exact (below_size (by repeat (first | (with_reducible first | exact HB.out | apply below_alloc | apply pw_below_drewN | apply below_drew1 | refine below_set ?_ GE300.out) | exact HB.out))) : w.heap.size ≤ gb302)); have n5_ := Aside0.mk ((by rw [hg]; exact (below_size (by repeat (first | (with_reducible first | exact HB.out | apply below_alloc | apply pw_below_drewN | apply below_drew1 | refine below_set ?_ GE300.out) | exact HB.out))) : w.heap.size ≤ gb302)); have n6_ := Aside0.mk ((by rw [hg]; exact Nat.ne_of_lt (blk_lt (g := gb300) (o := .cells #[.int .i64 ((rd_T26 t296 x6_1).f0), .int .i64 ((rd_T26 t296 x6_1).f1), .int .i64 ((rd_T26 t296 x6_1).f2), .int .i64 ((rd_T26 t296 x6_1).f3)] 26 (0, 0)) (by (with_reducible repeat (first | refine blk_drewN ?_ _ | refine blk_drew ?_ | refine blk_alloc ?_ _)); exact BK300.out)) : gb300 ≠ gb302)); have n7_ := Aside0.mk ((by rw [hg]; exact Nat.ne_of_gt (blk_lt (g := gb300) (o := .cells #[.int .i64 ((rd_T26 t296 x6_1).f0), .int .i64 ((rd_T26 t296 x6_1).f1), .int .i64 ((rd_T26 t296 x6_1).f2), .int .i64 ((rd_T26 t296 x6_1).f3)] 26 (0, 0)) (by (with_reducible repeat (first | refine blk_drewN ?_ _ | refine blk_drew ?_ | refine blk_alloc ?_ _)); exact BK300.out)) : gb302 ≠ gb300)); clear HO_4; clear BK300; clear HB; have HO_4 := n0_; have BK300 := n1_; have HB := n2_; have BK302 := n3_; have GW302 := n4_; have GE302 := n5_; have NB300_302 := n6_; have NB302_300 := n7_; clear n0_ n1_ n2_ n3_ n4_ n5_ n6_ n7_; clear hb hbox hg; have hnb35 := NB302_300.out; have hnc35 := NB300_302.out; have hcz36_0 : w34.cell? ⟨gb302, 0, none⟩ = some (.int .i64 0) := (blk_cell BK302.out 0).trans rfl; have hcz36_1 : w34.cell? ⟨gb302, 1, none⟩ = some (.int .i64 0) := (blk_cell BK302.out 1).trans rfl; have hcz36_2 : w34.cell? ⟨gb302, 2, none⟩ = some (.int .i64 0) := (blk_cell BK302.out 2).trans rfl; have hcz36_3 : w34.cell? ⟨gb302, 3, none⟩ = some (.int .i64 0) := (blk_cell BK302.out 3).trans rfl; have hfz36_0 := blk_frozen BK302.out 0; have hfz36_1 := blk_frozen BK302.out 1; have hfz36_2 := blk_frozen BK302.out 2; have hfz36_3 := blk_frozen BK302.out 3; have hcz37_0 : w34.cell? ⟨gb300, 0, none⟩ = some (.int .i64 ((rd_T26 t296 x6_1).f0)) := (blk_cell BK300.out 0).trans rfl; have hcz37_1 : w34.cell? ⟨gb300, 1, none⟩ = some (.int .i64 ((rd_T26 t296 x6_1).f1)) := (blk_cell BK300.out 1).trans rfl; have hcz37_2 : w34.cell? ⟨gb300, 2, none⟩ = some (.int .i64 ((rd_T26 t296 x6_1).f2)) := (blk_cell BK300.out 2).trans rfl; have hcz37_3 : w34.cell? ⟨gb300, 3, none⟩ = some (.int .i64 ((rd_T26 t296 x6_1).f3)) := (blk_cell BK300.out 3).trans rfl; have hfz37_0 := blk_frozen BK300.out 0; have hfz37_1 := blk_frozen BK300.out 1; have hfz37_2 := blk_frozen BK300.out 2; have hfz37_3 := blk_frozen BK300.out 3))
                              go_roundg kj10
                              case measure => have := HK1.out; have := HJ10.out; omega
                              case rel => exact ⟨(wrap64 (x5_1 + (wrap64 (((rd_T26 t296 x6_1).f2) * ((rd_T26 t296 x6_1).f3))))), (wrap64 (x6_1 + 1)), (by first | rfl | (simp; done) | (simp [*]; done)), (by first | rfl | (simp; done) | (simp [*]; done)), H', ⟨by have := HK1.out; have := HJ10.out; omega⟩, ⟨by (with_reducible repeat (first | apply Kd.R_alloc | apply Kd.R_drewN | apply Kd.R_drew)); exact Kd.R_mono (Kd.R_far (p := ⟨gb302, 3, none⟩) (Kd.R_far (p := ⟨gb302, 2, none⟩) (Kd.R_far (p := ⟨gb302, 1, none⟩) (Kd.R_far (p := ⟨gb302, 0, none⟩) (Kd.R_mono HO_4.out (fun k_ hk => (⟨hk, hk.2⟩ : _ ∧ k_ ≠ gb302))) (fun _ hk => hk.2) (.int .i64 ((rd_T26 t296 (ji21)).f0))) (fun _ hk => hk.2) (.int .i64 ((rd_T26 t296 (ji21)).f1))) (fun _ hk => hk.2) (.int .i64 ((rd_T26 t296 (ji21)).f2))) (fun _ hk => hk.2) (.int .i64 ((rd_T26 t296 (ji21)).f3))) (fun _ hk => trivial)⟩, ⟨by repeat (first | (with_reducible first | exact HB.out | apply below_alloc | apply pw_below_drewN | apply below_drew1 | refine below_set ?_ GE300.out | refine below_set ?_ GE302.out) | exact HB.out)⟩⟩
                        · rw [if_neg c23] at H
                          exact absurd H (by simp)
                      · rw [if_neg c22] at H
                        exact absurd H (by simp)
            · rw [if_neg c10] at H
              exact absurd H (by simp)
          · rw [if_neg c9] at H
            have c9b0 : decide (x6_1 < (t296.length : Int)) = false := decide_eq_false c9
            clear c9
            have H' := Aside0.mk H
            clear H
            obtain ⟨Ao38, co38, eo38⟩ := Kd.R_slice HO_4.out
            subst eo38
            go_wp2
            go_loopg [9, 10] k1 (fun kq v9 v10 w' => ∃ (x9_2 : List (S26)) (x10_2 : Int), v10 = .int .i64 x10_2 ∧ Aside0 (miradorlaw15_RegionForm.l1 kq l0 true t296 x5_1 x9_2 x10_2 = some r) ∧ Aside0 (kq ≤ k1) ∧ Aside0 (Kd.R k26 26 w' w.heap.size (fun k_ => some k_ ≠ (v9 : Value).ownBlock) (.slice Ao38 t296.length co38) t296) ∧ Aside0 (Kd.R k26 26 w' w.heap.size (fun k_ => some k_ ≠ ((.slice Ao38 t296.length co38) : Value).ownBlock) v9 x9_2) ∧ Aside0 (Below w.heap.size w w'))
            case atStart => exact ⟨(([] : List (S26))), (wrap64 ((l0.length : Int) - 1)), (by first | rfl | (simp; done) | (simp [*]; done)), H', ⟨Nat.le_refl _⟩, ⟨by (with_reducible repeat (first | apply Kd.R_alloc | apply Kd.R_drewN | apply Kd.R_drew)); exact Kd.R_mono HO_4.out (fun _ hk => (by simp [Value.ownBlock]))⟩, ⟨by first | exact Kd.R_nil _ _ _ _ _ | exact Kd.N_nil _ _ _ _ _ | exact Kd.V_nil _ _ _ _ _ | exact Kd.Q_nil _ _ _ _ _ | exact Kd.S_nil _ _ _ _ _⟩, ⟨by repeat (first | (with_reducible first | exact HB.out | apply below_alloc | apply pw_below_drewN | apply below_drew1) | exact HB.out)⟩⟩
            case round =>
              clear H'
              try clear c1
              try clear c2
              try clear p2
              try clear q2
              try clear hx2
              try clear c3
              try clear p3
              try clear q3
              try clear hx3
              try clear c4
              try clear c4b0
              try clear c4b1
              try clear p6
              try clear c9
              try clear c9b0
              try clear c10
              try clear c10b0
              try clear c11
              try clear c15
              try clear c15b0
              try clear c18
              try clear c19
              try clear c19b0
              try clear c19b1
              try clear c22
              try clear c22b0
              try clear c23
              try clear c23b0
              try clear c24
              try clear c24b0
              try clear c24b1
              try clear c25
              try clear c25b0
              try clear c25b1
              try clear c26
              try clear c26b0
              try clear c29
              try clear p29
              try clear q29
              try clear hx29
              try clear p30
              try clear q30
              try clear hx30
              try clear c32
              try clear c32b0
              try clear c35
              try clear hcz14_0
              try clear hcz14_1
              try clear hcz14_2
              try clear hcz14_3
              try clear hcz16_0
              try clear hcz16_1
              try clear hcz16_2
              try clear hcz16_3
              try clear hcz17_0
              try clear hcz17_1
              try clear hcz17_2
              try clear hcz17_3
              try clear hcz20_0
              try clear hcz20_1
              try clear hcz20_2
              try clear hcz20_3
              try clear hcz27_0
              try clear hcz27_1
              try clear hcz27_2
              try clear hcz27_3
              try clear hcz30_0
              try clear hcz30_1
              try clear hcz30_2
              try clear hcz30_3
              try clear hcz31_0
              try clear hcz31_1
              try clear hcz31_2
              try clear hcz31_3
              try clear hcz33_0
              try clear hcz33_1
              try clear hcz33_2
              try clear hcz33_3
              try clear hcz36_0
              try clear hcz36_1
              try clear hcz36_2
              try clear hcz36_3
              try clear hcz37_0
              try clear hcz37_1
              try clear hcz37_2
              try clear hcz37_3
              try clear hfz14_0
              try clear hfz14_1
              try clear hfz14_2
              try clear hfz14_3
              try clear hfz16_0
              try clear hfz16_1
              try clear hfz16_2
              try clear hfz16_3
              try clear hfz17_0
              try clear hfz17_1
              try clear hfz17_2
              try clear hfz17_3
              try clear hfz20_0
              try clear hfz20_1
              try clear hfz20_2
              try clear hfz20_3
              try clear hfz27_0
              try clear hfz27_1
              try clear hfz27_2
              try clear hfz27_3
              try clear hfz30_0
              try clear hfz30_1
              try clear hfz30_2
              try clear hfz30_3
              try clear hfz31_0
              try clear hfz31_1
              try clear hfz31_2
              try clear hfz31_3
              try clear hfz33_0
              try clear hfz33_1
              try clear hfz33_2
              try clear hfz33_3
              try clear hfz36_0
              try clear hfz36_1
              try clear hfz36_2
              try clear hfz36_3
              try clear hfz37_0
              try clear hfz37_1
              try clear hfz37_2
              try clear hfz37_3
              try clear hx299_0
              try clear hx299_1
              try clear hx299_2
              try clear hx299_3
              try clear hx301_0
              try clear hx301_1
              try clear hx301_2
              try clear hx301_3
              try clear p2
              try clear p299
              try clear p301
              try clear q2
              try clear q299
              try clear q301
              obtain ⟨x9_2, x10_2, rfl, HA, HK2, HO_4, HO_9, HB⟩ := hrel
              cases gk with
              | zero => exact absurd HA.out (by simp [miradorlaw15_RegionForm.l1])
              | succ k2 =>
                have H := HA.out
                clear HA
                simp only [miradorlaw15_RegionForm.l1] at H
                by_cases c39 : x10_2 ≥ 0
                · rw [if_pos c39] at H
                  have c39b0 : decide (0 ≤ x10_2) = true := decide_eq_true c39
                  clear c39
                  by_cases c40 : 0 ≤ x10_2
                  · rw [if_pos c40] at H
                    have c40b0 : decide (0 ≤ x10_2) = true := decide_eq_true c40
                    clear c40
                    by_cases c41 : x10_2 < (l0.length : Int)
                    · rw [if_pos c41] at H
                      have c41b0 : decide (x10_2 < (l0.length : Int)) = true := decide_eq_true c41
                      clear c41
                      obtain ⟨y305, hy305⟩ : ∃ y_ : List (S26), y_ = (([(⟨(rd_T26 l0 x10_2).f0, (rd_T26 l0 x10_2).f1, (rd_T26 l0 x10_2).f2, (rd_T26 l0 x10_2).f3⟩ : S26), (⟨(rd_T26 l0 x10_2).f0, (rd_T26 l0 x10_2).f1, (rd_T26 l0 x10_2).f2, (rd_T26 l0 x10_2).f3⟩ : S26)] : List (S26))) := ⟨_, rfl⟩
                      replace H : (if x9_2.length + y305.length < 4398046511104 then (miradorlaw15_RegionForm.l1 k2 l0 true t296 x5_1 (x9_2 ++ y305) (wrap64 (x10_2 - 1))) else (none)) = some r := by first | (rw [hy305]; with_reducible exact H) | (have H2_ := (Option.bind_some _ _).symm.trans H; rw [hy305]; with_reducible exact H2_) | (have H2_ := (Option.bind_some _ _).symm.trans H; with_reducible exact H2_) | with_reducible exact H | (rw [hy305]; exact H) | exact H
                      have Ny305 := Aside0.mk hy305
                      clear hy305
                      by_cases c42 : x9_2.length + y305.length < 4398046511104
                      · rw [if_pos c42] at H
                        have LMc42 := Aside0.mk c42
                        clear c42
                        obtain ⟨y308, hy308⟩ : ∃ y_ : List (S26), y_ = (x9_2 ++ y305) := ⟨_, rfl⟩
                        replace H : (miradorlaw15_RegionForm.l1 k2 l0 true t296 x5_1 y308 (wrap64 (x10_2 - 1))) = some r := by first | (rw [hy308]; with_reducible exact H) | (have H2_ := (Option.bind_some _ _).symm.trans H; rw [hy308]; with_reducible exact H2_) | (have H2_ := (Option.bind_some _ _).symm.trans H; with_reducible exact H2_) | with_reducible exact H | (rw [hy308]; exact H) | exact H
                        have Ny308 := Aside0.mk hy308
                        clear hy308
                        have H' := Aside0.mk H
                        clear H
                        try go_wp2
                        have n0_ := Aside0.mk (Kd.R_drew HO_4.out)
                        have n1_ := Aside0.mk (Kd.R_drew HO_9.out)
                        have n2_ := Aside0.mk (below_drew1 HB.out)
                        clear HO_4
                        clear HO_9
                        clear HB
                        have HO_4 := n0_
                        have HO_9 := n1_
                        have HB := n2_
                        clear n0_ n1_ n2_
                        have p303 : 0 ≤ (x10_2 : Int) := of_decide_eq_true (by first | (with_reducible assumption) | assumption)
                        have q303 : x10_2 < (l0.length : Int) := of_decide_eq_true (by first | (with_reducible assumption) | assumption)
                        obtain ⟨ad303, e303, hx303_0, hx303_1, hx303_2, hx303_3⟩ := at_T26 HR0.out x10_2 p303 q303
                        have hw303_3 := hx303_3
                        have hw303_2 := hx303_2
                        have hw303_1 := hx303_1
                        have hw303_0 := hx303_0
                        cases e303
                        replace hx303_0 := (HB.out.cell (World.block_lt_of_cell? w _ hx303_0)).trans hx303_0
                        replace hx303_1 := (HB.out.cell (World.block_lt_of_cell? w _ hx303_1)).trans hx303_1
                        replace hx303_2 := (HB.out.cell (World.block_lt_of_cell? w _ hx303_2)).trans hx303_2
                        replace hx303_3 := (HB.out.cell (World.block_lt_of_cell? w _ hx303_3)).trans hx303_3
                        replace p303 := eq_true p303
                        replace q303 := eq_true q303
                        have p304 : 0 ≤ (x10_2 : Int) := of_decide_eq_true (by first | (with_reducible assumption) | assumption)
                        have q304 : x10_2 < (l0.length : Int) := of_decide_eq_true (by first | (with_reducible assumption) | assumption)
                        obtain ⟨ad304, e304, hx304_0, hx304_1, hx304_2, hx304_3⟩ := at_T26 HR0.out x10_2 p304 q304
                        have hw304_3 := hx304_3
                        have hw304_2 := hx304_2
                        have hw304_1 := hx304_1
                        have hw304_0 := hx304_0
                        obtain rfl : ad303 = ad304 := (by injection e304)
                        replace hx304_0 := (HB.out.cell (World.block_lt_of_cell? w _ hx304_0)).trans hx304_0
                        replace hx304_1 := (HB.out.cell (World.block_lt_of_cell? w _ hx304_1)).trans hx304_1
                        replace hx304_2 := (HB.out.cell (World.block_lt_of_cell? w _ hx304_2)).trans hx304_2
                        replace hx304_3 := (HB.out.cell (World.block_lt_of_cell? w _ hx304_3)).trans hx304_3
                        replace p304 := eq_true p304
                        replace q304 := eq_true q304
                        refine start_ (n := 12) (S := fun w' => w'.cell? (ad303.add ((x10_2).toNat * 4)) = some (.int .i64 ((rd_T26 l0 x10_2).f0)) ∧ w'.cell? ⟨(ad303.add ((x10_2).toNat * 4)).block, (ad303.add ((x10_2).toNat * 4)).off + 1, none⟩ = some (.int .i64 ((rd_T26 l0 x10_2).f1)) ∧ w'.cell? ⟨(ad303.add ((x10_2).toNat * 4)).block, (ad303.add ((x10_2).toNat * 4)).off + 2, none⟩ = some (.int .i64 ((rd_T26 l0 x10_2).f2)) ∧ w'.cell? ⟨(ad303.add ((x10_2).toNat * 4)).block, (ad303.add ((x10_2).toNat * 4)).off + 3, none⟩ = some (.int .i64 ((rd_T26 l0 x10_2).f3)) ∧ w'.cell? (ad303.add ((x10_2).toNat * 4)) = some (.int .i64 ((rd_T26 l0 x10_2).f0)) ∧ w'.cell? ⟨(ad303.add ((x10_2).toNat * 4)).block, (ad303.add ((x10_2).toNat * 4)).off + 1, none⟩ = some (.int .i64 ((rd_T26 l0 x10_2).f1)) ∧ w'.cell? ⟨(ad303.add ((x10_2).toNat * 4)).block, (ad303.add ((x10_2).toNat * 4)).off + 2, none⟩ = some (.int .i64 ((rd_T26 l0 x10_2).f2)) ∧ w'.cell? ⟨(ad303.add ((x10_2).toNat * 4)).block, (ad303.add ((x10_2).toNat * 4)).off + 3, none⟩ = some (.int .i64 ((rd_T26 l0 x10_2).f3))) (ds := []) #[false, false, false, false, false, false, false, false, false, false, false, false] (by kernel_rfl) rfl rfl ⟨((HB.out.cell (World.block_lt_of_cell? w _ hw303_0)).trans hw303_0), ((HB.out.cell (World.block_lt_of_cell? w _ hw303_1)).trans hw303_1), ((HB.out.cell (World.block_lt_of_cell? w _ hw303_2)).trans hw303_2), ((HB.out.cell (World.block_lt_of_cell? w _ hw303_3)).trans hw303_3), ((HB.out.cell (World.block_lt_of_cell? w _ hw304_0)).trans hw304_0), ((HB.out.cell (World.block_lt_of_cell? w _ hw304_1)).trans hw304_1), ((HB.out.cell (World.block_lt_of_cell? w _ hw304_2)).trans hw304_2), ((HB.out.cell (World.block_lt_of_cell? w _ hw304_3)).trans hw304_3)⟩ (fun hHeld => ?_); refine with_tabW miradorlaw15_RegionForm.tab23 miradorlaw15_RegionForm.bits23 (fun HT_ HW_ => ?_)
                        generalize wr.drew = w43 at HO_4 HO_9 HB hx303_0 hx303_1 hx303_2 hx303_3 hx304_0 hx304_1 hx304_2 hx304_3 hHeld ⊢
                        refine pure_ (i := 0) (N := some 100) (v := ?_) (a' := ?_) #[true, false, false, false, false, false, false, false, false, false, false, false] rfl rfl (any_of HT_.out (by kernel_rfl)) (fun _ _ _ h => h) (Or.inl ⟨by rfl, ?_⟩) ?_ ?_
                        rotate_left
                        · intro w'
                          go_simp
                          with_reducible rfl
                        rotate_left
                        · simp only [Act.put, List.setIfInBounds_toArray, List.set_cons_zero, List.set_cons_succ, i64_w, i32_w]
                          rfl
                        refine pure_ (i := 1) (N := some 101) (v := ?_) (a' := ?_) #[true, true, false, false, false, false, false, false, false, false, false, false] rfl rfl (any_of HT_.out (by kernel_rfl)) (fun _ _ _ h => h) (Or.inl ⟨by rfl, ?_⟩) ?_ ?_
                        rotate_left
                        · intro w'
                          go_simp
                          with_reducible rfl
                        rotate_left
                        · simp only [Act.put, List.setIfInBounds_toArray, List.set_cons_zero, List.set_cons_succ, i64_w, i32_w]
                          rfl
                        refine pure_ (i := 2) (N := some 102) (v := ?_) (a' := ?_) #[true, true, true, false, false, false, false, false, false, false, false, false] rfl rfl (any_of HT_.out (by kernel_rfl)) (fun _ _ _ h => h) (Or.inl ⟨by rfl, ?_⟩) ?_ ?_
                        rotate_left
                        · intro w'
                          go_simp
                          with_reducible rfl
                        rotate_left
                        · simp only [Act.put, List.setIfInBounds_toArray, List.set_cons_zero, List.set_cons_succ, i64_w, i32_w]
                          rfl
                        refine pure_ (i := 3) (N := some 103) (v := ?_) (a' := ?_) #[true, true, true, true, false, false, false, false, false, false, false, false] rfl rfl (any_of HT_.out (by kernel_rfl)) (fun _ _ _ h => h) (Or.inl ⟨by rfl, ?_⟩) ?_ ?_
                        rotate_left
                        · intro w'
                          go_simp
                          with_reducible rfl
                        rotate_left
                        · simp only [Act.put, List.setIfInBounds_toArray, List.set_cons_zero, List.set_cons_succ, i64_w, i32_w]
                          rfl
                        refine pure_ (i := 5) (N := some 105) (v := ?_) (a' := ?_) #[true, true, true, true, false, true, false, false, false, false, false, false] rfl rfl (any_of HT_.out (by kernel_rfl)) (fun _ _ _ h => h) (Or.inl ⟨by rfl, ?_⟩) ?_ ?_
                        rotate_left
                        · intro w'
                          go_simp
                          with_reducible rfl
                        rotate_left
                        · simp only [Act.put, List.setIfInBounds_toArray, List.set_cons_zero, List.set_cons_succ, i64_w, i32_w]
                          rfl
                        refine pure_ (i := 6) (N := some 106) (v := ?_) (a' := ?_) #[true, true, true, true, false, true, true, false, false, false, false, false] rfl rfl (any_of HT_.out (by kernel_rfl)) (fun _ _ _ h => h) (Or.inl ⟨by rfl, ?_⟩) ?_ ?_
                        rotate_left
                        · intro w'
                          go_simp
                          with_reducible rfl
                        rotate_left
                        · simp only [Act.put, List.setIfInBounds_toArray, List.set_cons_zero, List.set_cons_succ, i64_w, i32_w]
                          rfl
                        refine pure_ (i := 7) (N := some 107) (v := ?_) (a' := ?_) #[true, true, true, true, false, true, true, true, false, false, false, false] rfl rfl (any_of HT_.out (by kernel_rfl)) (fun _ _ _ h => h) (Or.inl ⟨by rfl, ?_⟩) ?_ ?_
                        rotate_left
                        · intro w'
                          go_simp
                          with_reducible rfl
                        rotate_left
                        · simp only [Act.put, List.setIfInBounds_toArray, List.set_cons_zero, List.set_cons_succ, i64_w, i32_w]
                          rfl
                        refine take_ (i := 4) (N := some 104) (v := ?_) (a' := ?_) #[true, true, true, true, true, true, true, true, false, false, false, false] rfl rfl (take_ofW HT_.out HW_.out (by kernel_rfl)) (fun _ _ _ h => h) (Or.inl ⟨by rfl, ?_⟩) hHeld ?_ ?_
                        rotate_left
                        · rintro w' ⟨s0, s1, s2, s3, s4, s5, s6, s7⟩
                          go_simp
                          with_reducible rfl
                        rotate_left
                        · simp only [Act.put, List.setIfInBounds_toArray, List.set_cons_zero, List.set_cons_succ, i64_w, i32_w]
                          rfl
                        refine take_ (i := 8) (N := some 108) (v := ?_) (a' := ?_) #[true, true, true, true, true, true, true, true, true, false, false, false] rfl rfl (take_ofW HT_.out HW_.out (by kernel_rfl)) (fun _ _ _ h => h) (Or.inl ⟨by rfl, ?_⟩) hHeld ?_ ?_
                        rotate_left
                        · rintro w' ⟨s0, s1, s2, s3, s4, s5, s6, s7⟩
                          go_simp
                          with_reducible rfl
                        rotate_left
                        · simp only [Act.put, List.setIfInBounds_toArray, List.set_cons_zero, List.set_cons_succ, i64_w, i32_w]
                          rfl
                        refine one_ (i := 9) (N := some 109) #[true, true, true, true, true, true, true, true, true, true, false, false] rfl rfl (one_of HT_.out (by kernel_rfl)) (by decide) (fun K hK => ?_)
                        refine Kd.R_lit_step k26 _ 26 ?hg (N := 109) ?hd (xs := ([(⟨(rd_T26 l0 x10_2).f0, (rd_T26 l0 x10_2).f1, (rd_T26 l0 x10_2).f2, (rd_T26 l0 x10_2).f3⟩ : S26), (⟨(rd_T26 l0 x10_2).f0, (rd_T26 l0 x10_2).f1, (rd_T26 l0 x10_2).f2, (rd_T26 l0 x10_2).f3⟩ : S26)] : List (S26))) (inner := [.int .i64 ((rd_T26 l0 x10_2).f0), .int .i64 ((rd_T26 l0 x10_2).f1), .int .i64 ((rd_T26 l0 x10_2).f2), .int .i64 ((rd_T26 l0 x10_2).f3), .int .i64 ((rd_T26 l0 x10_2).f0), .int .i64 ((rd_T26 l0 x10_2).f1), .int .i64 ((rd_T26 l0 x10_2).f2), .int .i64 ((rd_T26 l0 x10_2).f3)]) (ok := fun _ => True) (okp := fun _ => True) ?hr ?hp (fun _ hk => hk) trivial (Below.refl _ _) (Nat.le_refl _) (by simp) ?_; (case hd => rfl); (case hg => rfl); (case hr => first | (go_simp; done) | (go_simp; rfl)); (case hp => exact (Reps.c4 (show Kd.M k26 _ _ _ (⟨(rd_T26 l0 x10_2).f0, (rd_T26 l0 x10_2).f1, (rd_T26 l0 x10_2).f2, (rd_T26 l0 x10_2).f3⟩ : S26) [.int .i64 ((rd_T26 l0 x10_2).f0), .int .i64 ((rd_T26 l0 x10_2).f1), .int .i64 ((rd_T26 l0 x10_2).f2), .int .i64 ((rd_T26 l0 x10_2).f3)] from (k26_mkM _ _ _ (⟨(rd_T26 l0 x10_2).f0, (rd_T26 l0 x10_2).f1, (rd_T26 l0 x10_2).f2, (rd_T26 l0 x10_2).f3⟩ : S26) )) (Reps.c4 (show Kd.M k26 _ _ _ (⟨(rd_T26 l0 x10_2).f0, (rd_T26 l0 x10_2).f1, (rd_T26 l0 x10_2).f2, (rd_T26 l0 x10_2).f3⟩ : S26) [.int .i64 ((rd_T26 l0 x10_2).f0), .int .i64 ((rd_T26 l0 x10_2).f1), .int .i64 ((rd_T26 l0 x10_2).f2), .int .i64 ((rd_T26 l0 x10_2).f3)] from (k26_mkM _ _ _ (⟨(rd_T26 l0 x10_2).f0, (rd_T26 l0 x10_2).f1, (rd_T26 l0 x10_2).f2, (rd_T26 l0 x10_2).f3⟩ : S26) )) (Reps.none _ _))))
                        intro v306 w44 ho45 hb hg_ hnew_
                        clear hg_ hnew_
                        (first | rw [← Ny305.out] at ho45 | (simp only [Int.reduceToNat] at ho45; rw [← Ny305.out] at ho45))
                        have n0_ := Aside0.mk (Kd.R_elder' (by (with_reducible repeat (first | apply Kd.R_alloc | apply Kd.R_drewN | apply Kd.R_drew)); exact HO_4.out) (Kd.R_base ho45) hb)
                        have n1_ := Aside0.mk (Kd.R_elder' (by (with_reducible repeat (first | apply Kd.R_alloc | apply Kd.R_drewN | apply Kd.R_drew)); exact HO_9.out) (Kd.R_base ho45) hb)
                        have n2_ := Aside0.mk (Kd.R_lower (Kd.R_new' (Kd.R_new' ho45 (Kd.R_lt (by (with_reducible repeat (first | apply Kd.R_alloc | apply Kd.R_drewN | apply Kd.R_drew)); exact HO_4.out))) (Kd.R_lt (by (with_reducible repeat (first | apply Kd.R_alloc | apply Kd.R_drewN | apply Kd.R_drew)); exact HO_9.out))) (below_size (by repeat (first | (with_reducible first | exact HB.out | apply below_alloc | apply pw_below_drewN | apply below_drew1) | exact HB.out))))
                        have n3_ := Aside0.mk (below_step (by repeat (first | (with_reducible first | exact HB.out | apply below_alloc | apply pw_below_drewN | apply below_drew1) | exact HB.out)) hb)
                        clear HO_4
                        clear HO_9
                        clear HB
                        have HO_4 := n0_
                        have HO_9 := n1_
                        have HO307 := n2_
                        have HB := n3_
                        clear n0_ n1_ n2_ n3_
                        clear hb ho45
                        obtain ⟨Ao47, co47, eo47⟩ := Kd.R_slice HO307.out
                        (first | subst eo47 | (injection eo47 with f1_ f2_ f3_; have f4_ := f1_.symm; have f5_ := f3_.symm; clear f1_ f2_ f3_; subst f4_; subst f5_))
                        refine hK.out _ _ ⟨((HB.out.cell (World.block_lt_of_cell? w _ hw303_0)).trans hw303_0), ((HB.out.cell (World.block_lt_of_cell? w _ hw303_1)).trans hw303_1), ((HB.out.cell (World.block_lt_of_cell? w _ hw303_2)).trans hw303_2), ((HB.out.cell (World.block_lt_of_cell? w _ hw303_3)).trans hw303_3), ((HB.out.cell (World.block_lt_of_cell? w _ hw304_0)).trans hw304_0), ((HB.out.cell (World.block_lt_of_cell? w _ hw304_1)).trans hw304_1), ((HB.out.cell (World.block_lt_of_cell? w _ hw304_2)).trans hw304_2), ((HB.out.cell (World.block_lt_of_cell? w _ hw304_3)).trans hw304_3)⟩ (fun hHeld => ?_)
                        clear hK K
                        refine norm_ (a' := ?_) ?_ ?_
                        rotate_left
                        · show Act.put _ (some 109) _ = _
                          simp only [Act.put, List.setIfInBounds_toArray, List.set_cons_zero, List.set_cons_succ, i64_w, i32_w]
                          rfl
                        refine one_ (i := 10) (N := some 110) #[true, true, true, true, true, true, true, true, true, true, true, false] rfl rfl (one_of HT_.out (by kernel_rfl)) (by decide) (fun K hK => ?_)
                        refine Kd.R_append_rows_step k26 (w0 := w) w.heap.size (by rfl) (.tmp 100) (.tmp 109) 22 26 (.agg #[(.int .i64 0), (.int .i64 0), (.int .i64 0), (.int .i64 0)]) 32 rfl Try.underlying22 info26 rfl (by decide) (by omega) u9 x9_2 y305 _ _ _ (fun k_ => some k_ ≠ (.slice Ao38 t296.length co38 : Value).ownBlock ∧ some k_ ≠ (.slice Ao47 y305.length co47 : Value).ownBlock) (fun _ => False) rfl rfl ?aO ?aR (fun _ _ h => h) (fun _ h => h.elim) ?aF ?aB ?aS ?aL ?_
                        (case aR => repeat (first | exact (Kd.R_reads' HO307.out).2.2 | (with_reducible refine Kd.C_alloc ?_ _) | (with_reducible refine Kd.C_drewN ?_ _) | (with_reducible refine Kd.C_drew ?_)))
                        (case aB => exact (by repeat (first | (with_reducible first | exact HB.out | apply below_alloc | apply pw_below_drewN | apply below_drew1) | exact HB.out)))
                        (case aF => exact (fun k_ hk => ⟨Kd.fresh' (Kd.R_lt (by (with_reducible repeat (first | apply Kd.R_alloc | apply Kd.R_drewN | apply Kd.R_drew)); exact HO_4.out)) k_ hk, Kd.fresh' (Kd.R_lt (by (with_reducible repeat (first | apply Kd.R_alloc | apply Kd.R_drewN | apply Kd.R_drew)); exact HO307.out)) k_ hk⟩))
                        (case aO => exact (by (with_reducible repeat (first | apply Kd.R_alloc | apply Kd.R_drewN | apply Kd.R_drew)); exact HO_9.out))
                        (case aS => exact (below_size (by repeat (first | (with_reducible first | exact HB.out | apply below_alloc | apply pw_below_drewN | apply below_drew1) | exact HB.out))))
                        (case aL => have := LMc42.out; omega)
                        intro v309 w46 ho hb hg hat
                        rw [← Ny308.out] at ho
                        have n0_ := Aside0.mk (Kd.R_after (ok := (fun k_ => some k_ ≠ (.slice Ao47 y305.length co47 : Value).ownBlock)) (by (with_reducible repeat (first | apply Kd.R_alloc | apply Kd.R_drewN | apply Kd.R_drew)); exact Kd.R_mono HO_4.out (fun _ hk => ⟨hk.2, hk.1⟩)) hg hat)
                        have n1_ := Aside0.mk (Kd.R_after (ok := (fun k_ => some k_ ≠ (.slice Ao38 t296.length co38 : Value).ownBlock)) (by (with_reducible repeat (first | apply Kd.R_alloc | apply Kd.R_drewN | apply Kd.R_drew)); exact Kd.R_mono HO307.out (fun _ hk => ⟨hk.1.2, hk.2⟩)) hg hat)
                        have n2_ := Aside0.mk (hb)
                        have n3_ := Aside0.mk (ho)
                        clear HO_4
                        clear HO307
                        clear HB
                        clear HO_9
                        have HO_4 := n0_
                        have HO307 := n1_
                        have HB := n2_
                        have HO310 := n3_
                        clear n0_ n1_ n2_ n3_
                        clear ho hb hg hat
                        refine hK.out _ _ ⟨((HB.out.cell (World.block_lt_of_cell? w _ hw303_0)).trans hw303_0), ((HB.out.cell (World.block_lt_of_cell? w _ hw303_1)).trans hw303_1), ((HB.out.cell (World.block_lt_of_cell? w _ hw303_2)).trans hw303_2), ((HB.out.cell (World.block_lt_of_cell? w _ hw303_3)).trans hw303_3), ((HB.out.cell (World.block_lt_of_cell? w _ hw304_0)).trans hw304_0), ((HB.out.cell (World.block_lt_of_cell? w _ hw304_1)).trans hw304_1), ((HB.out.cell (World.block_lt_of_cell? w _ hw304_2)).trans hw304_2), ((HB.out.cell (World.block_lt_of_cell? w _ hw304_3)).trans hw304_3)⟩ (fun hHeld => ?_)
                        clear hK K
                        refine norm_ (a' := ?_) ?_ ?_
                        rotate_left
                        · show Act.put _ (some 110) _ = _
                          simp only [Act.put, List.setIfInBounds_toArray, List.set_cons_zero, List.set_cons_succ, i64_w, i32_w]
                          rfl
                        refine pure_ (i := 11) (N := some 9) (v := ?_) (a' := ?_) #[true, true, true, true, true, true, true, true, true, true, true, true] rfl rfl (any_of HT_.out (by kernel_rfl)) (fun _ _ _ h => h) (Or.inl ⟨by rfl, ?_⟩) ?_ ?_
                        rotate_left
                        · intro w'
                          go_simp
                          with_reducible rfl
                        rotate_left
                        · simp only [Act.put, List.setIfInBounds_toArray, List.set_cons_zero, List.set_cons_succ, i64_w, i32_w]
                          rfl
                        refine done_ (done_of HT_.out (by kernel_rfl)) ?_
                        try go_wp2
                        go_roundg k2
                        case measure => have := HK1.out; have := HK2.out; omega
                        case rel => exact ⟨(y308), (wrap64 (x10_2 - 1)), (by first | rfl | (simp; done) | (simp [*]; done)), H', ⟨by have := HK1.out; have := HK2.out; omega⟩, ⟨by (with_reducible repeat (first | apply Kd.R_alloc | apply Kd.R_drewN | apply Kd.R_drew)); exact Kd.R_mono HO_4.out (fun _ hk => hk.2)⟩, ⟨by (with_reducible repeat (first | apply Kd.R_alloc | apply Kd.R_drewN | apply Kd.R_drew)); exact Kd.R_mono HO310.out (fun _ hk => hk.1)⟩, ⟨by repeat (first | (with_reducible first | exact HB.out | apply below_alloc | apply pw_below_drewN | apply below_drew1) | exact HB.out)⟩⟩
                      · rw [if_neg c42] at H
                        exact absurd H (by simp)
                    · rw [if_neg c41] at H
                      exact absurd H (by simp)
                  · rw [if_neg c40] at H
                    exact absurd H (by simp)
                · rw [if_neg c39] at H
                  have c39b0 : decide (0 ≤ x10_2) = false := decide_eq_false c39
                  clear c39
                  replace H := Option.bind_eq_some_iff.mp H
                  obtain ⟨t311, A480, H⟩ := H
                  replace H : ((miradorref15_Same.f k2 t311 t296).bind fun t314 => ((region_Make.f x9_2).bind fun t315 => ((miradorref15_Same.f k2 t315 t296).bind fun t318 => (if true = true then (if t314 = true then (if t318 = true then ((region_Area.f k2 l0).bind fun t319 => (some (t319 == x5_1))) else (some false)) else (some false)) else (some false))))) = some r := H
                  have A48 := Aside0.mk A480
                  clear A480
                  replace H := Option.bind_eq_some_iff.mp H
                  obtain ⟨t314, A490, H⟩ := H
                  replace H : ((region_Make.f x9_2).bind fun t315 => ((miradorref15_Same.f k2 t315 t296).bind fun t318 => (if true = true then (if t314 = true then (if t318 = true then ((region_Area.f k2 l0).bind fun t319 => (some (t319 == x5_1))) else (some false)) else (some false)) else (some false)))) = some r := H
                  have A49 := Aside0.mk A490
                  clear A490
                  replace H := Option.bind_eq_some_iff.mp H
                  obtain ⟨t315, A500, H⟩ := H
                  replace H : ((miradorref15_Same.f k2 t315 t296).bind fun t318 => (if true = true then (if t314 = true then (if t318 = true then ((region_Area.f k2 l0).bind fun t319 => (some (t319 == x5_1))) else (some false)) else (some false)) else (some false))) = some r := H
                  have A50 := Aside0.mk A500
                  clear A500
                  replace H := Option.bind_eq_some_iff.mp H
                  obtain ⟨t318, A510, H⟩ := H
                  replace H : (if true = true then (if t314 = true then (if t318 = true then ((region_Area.f k2 l0).bind fun t319 => (some (t319 == x5_1))) else (some false)) else (some false)) else (some false)) = some r := H
                  have A51 := Aside0.mk A510
                  clear A510
                  have H1 : (if t314 = true then (if t318 = true then ((region_Area.f k2 l0).bind fun t319 => (some (t319 == x5_1))) else (some false)) else (some false)) = some r := by (first | rw [if_pos rfl] at H | rw [if_pos trivial] at H); exact H
                  clear H
                  have H := H1
                  clear H1
                  by_cases c52 : t314 = true
                  · subst c52
                    have H1 : (if t318 = true then ((region_Area.f k2 l0).bind fun t319 => (some (t319 == x5_1))) else (some false)) = some r := by rw [if_pos rfl] at H; exact H
                    clear H
                    have H := H1
                    clear H1
                    by_cases c53 : t318 = true
                    · subst c53
                      have H1 : ((region_Area.f k2 l0).bind fun t319 => (some (t319 == x5_1))) = some r := by rw [if_pos rfl] at H; exact H
                      clear H
                      have H := H1
                      clear H1
                      replace H := Option.bind_eq_some_iff.mp H
                      obtain ⟨t319, A540, H⟩ := H
                      replace H : (some (t319 == x5_1)) = some r := H
                      have A54 := Aside0.mk A540
                      clear A540
                      obtain rfl := Option.some.inj H
                      go_wp2_with (first | ((with_reducible refine gate_callee (f := 11) rfl ?_); refine goesL_ (some 112) rfl rfl Try.func11 (by kernel_rfl) rfl #[.slice Ao38 t296.length co38] rfl (by (try simp only [List.map_toArray, List.map_cons, List.map_nil]); first | done | rfl | (simp only [List.length_drop, List.length_take]; rfl)) ?_; (with_reducible refine (region_Make.calls _ _ t296 t311 _ ?side1 ?side2 A48.out).mono ?_); (case side1 => repeat (first | exact (Kd.R_reads' HO_4.out).2.2 | (with_reducible refine Kd.C_alloc ?_ _) | (with_reducible refine Kd.C_drewN ?_ _) | (with_reducible refine Kd.C_drew ?_))); (case side2 => exact (Kd.R_reads' HO_4.out).2.1); rintro e w55 ⟨v312, rfl, ho0, hb⟩; refine ⟨_, rfl, ?_⟩; have n0_ := Aside0.mk (Kd.R_elder' (by (with_reducible repeat (first | apply Kd.R_alloc | apply Kd.R_drewN | apply Kd.R_drew)); exact HO_4.out) (Kd.R_base ho0) hb); have n1_ := Aside0.mk (Kd.R_elder' (by (with_reducible repeat (first | apply Kd.R_alloc | apply Kd.R_drewN | apply Kd.R_drew)); exact HO_9.out) (Kd.R_base ho0) hb); have n2_ := Aside0.mk (Kd.R_lower (Kd.R_new' (Kd.R_new' ho0 (Kd.R_lt (by (with_reducible repeat (first | apply Kd.R_alloc | apply Kd.R_drewN | apply Kd.R_drew)); exact HO_4.out))) (Kd.R_lt (by (with_reducible repeat (first | apply Kd.R_alloc | apply Kd.R_drewN | apply Kd.R_drew)); exact HO_9.out))) (below_size (by repeat (first | (with_reducible first | exact HB.out | apply below_alloc | apply pw_below_drewN | apply below_drew1) | exact HB.out)))); have n3_ := Aside0.mk (below_step (by repeat (first | (with_reducible first | exact HB.out | apply below_alloc | apply pw_below_drewN | apply below_drew1) | exact HB.out)) hb); clear HO_4; clear HO_9; clear HB; have HO_4 := n0_; have HO_9 := n1_; have HO313 := n2_; have HB := n3_; clear n0_ n1_ n2_ n3_; (try clear hb); (try clear hb2); (try clear hk); (try clear hi); (try clear ho0); obtain ⟨Ao56, co56, eo56⟩ := Kd.R_slice HO313.out; subst eo56) | ((with_reducible refine gate_callee (f := 12) rfl ?_); refine goesL_ (some 114) rfl rfl Try.func12 (by kernel_rfl) rfl #[.slice Ao56 t311.length co56, .slice Ao38 t296.length co38] rfl (by (try simp only [List.map_toArray, List.map_cons, List.map_nil]); first | done | rfl | (simp only [List.length_drop, List.length_take]; rfl)) ?_; (with_reducible refine (miradorref15_Same.calls k2 _ _ t311 _ _ t296 true _ ?side1 ?side2 ?side3 ?side4 A49.out).mono ?_); (case side1 => repeat (first | exact (Kd.R_reads' HO313.out).2.2 | (with_reducible refine Kd.C_alloc ?_ _) | (with_reducible refine Kd.C_drewN ?_ _) | (with_reducible refine Kd.C_drew ?_))); (case side2 => exact (Kd.R_reads' HO313.out).2.1); (case side3 => repeat (first | exact (Kd.R_reads' HO_4.out).2.2 | (with_reducible refine Kd.C_alloc ?_ _) | (with_reducible refine Kd.C_drewN ?_ _) | (with_reducible refine Kd.C_drew ?_))); (case side4 => exact (Kd.R_reads' HO_4.out).2.1); rintro e w57 ⟨rfl, hb⟩; refine ⟨_, rfl, ?_⟩; have n0_ := Aside0.mk (Kd.R_below (by (with_reducible repeat (first | apply Kd.R_alloc | apply Kd.R_drewN | apply Kd.R_drew)); exact HO_4.out) hb); have n1_ := Aside0.mk (Kd.R_below (by (with_reducible repeat (first | apply Kd.R_alloc | apply Kd.R_drewN | apply Kd.R_drew)); exact HO_9.out) hb); have n2_ := Aside0.mk (Kd.R_below (by (with_reducible repeat (first | apply Kd.R_alloc | apply Kd.R_drewN | apply Kd.R_drew)); exact HO313.out) hb); have n3_ := Aside0.mk (below_step (by repeat (first | (with_reducible first | exact HB.out | apply below_alloc | apply pw_below_drewN | apply below_drew1) | exact HB.out)) hb); clear HO_4; clear HO_9; clear HO313; clear HB; have HO_4 := n0_; have HO_9 := n1_; have HO313 := n2_; have HB := n3_; clear n0_ n1_ n2_ n3_; (try clear hb); (try clear hb2); (try clear hk); (try clear hi); obtain ⟨Ao58, co58, eo58⟩ := Kd.R_slice HO_9.out; subst eo58) | ((with_reducible refine gate_callee (f := 11) rfl ?_); refine goesL_ (some 116) rfl rfl Try.func11 (by kernel_rfl) rfl #[.slice Ao58 x9_2.length co58] rfl (by (try simp only [List.map_toArray, List.map_cons, List.map_nil]); first | done | rfl | (simp only [List.length_drop, List.length_take]; rfl)) ?_; (with_reducible refine (region_Make.calls _ _ x9_2 t315 _ ?side1 ?side2 A50.out).mono ?_); (case side1 => repeat (first | exact (Kd.R_reads' HO_9.out).2.2 | (with_reducible refine Kd.C_alloc ?_ _) | (with_reducible refine Kd.C_drewN ?_ _) | (with_reducible refine Kd.C_drew ?_))); (case side2 => exact (Kd.R_reads' HO_9.out).2.1); rintro e w59 ⟨v316, rfl, ho0, hb⟩; refine ⟨_, rfl, ?_⟩; have n0_ := Aside0.mk (Kd.R_elder' (by (with_reducible repeat (first | apply Kd.R_alloc | apply Kd.R_drewN | apply Kd.R_drew)); exact HO_4.out) (Kd.R_base ho0) hb); have n1_ := Aside0.mk (Kd.R_elder' (by (with_reducible repeat (first | apply Kd.R_alloc | apply Kd.R_drewN | apply Kd.R_drew)); exact HO_9.out) (Kd.R_base ho0) hb); have n2_ := Aside0.mk (Kd.R_elder' (by (with_reducible repeat (first | apply Kd.R_alloc | apply Kd.R_drewN | apply Kd.R_drew)); exact HO313.out) (Kd.R_base ho0) hb); have n3_ := Aside0.mk (Kd.R_lower (Kd.R_new' (Kd.R_new' (Kd.R_new' ho0 (Kd.R_lt (by (with_reducible repeat (first | apply Kd.R_alloc | apply Kd.R_drewN | apply Kd.R_drew)); exact HO_4.out))) (Kd.R_lt (by (with_reducible repeat (first | apply Kd.R_alloc | apply Kd.R_drewN | apply Kd.R_drew)); exact HO_9.out))) (Kd.R_lt (by (with_reducible repeat (first | apply Kd.R_alloc | apply Kd.R_drewN | apply Kd.R_drew)); exact HO313.out))) (below_size (by repeat (first | (with_reducible first | exact HB.out | apply below_alloc | apply pw_below_drewN | apply below_drew1) | exact HB.out)))); have n4_ := Aside0.mk (below_step (by repeat (first | (with_reducible first | exact HB.out | apply below_alloc | apply pw_below_drewN | apply below_drew1) | exact HB.out)) hb); clear HO_4; clear HO_9; clear HO313; clear HB; have HO_4 := n0_; have HO_9 := n1_; have HO313 := n2_; have HO317 := n3_; have HB := n4_; clear n0_ n1_ n2_ n3_ n4_; (try clear hb); (try clear hb2); (try clear hk); (try clear hi); (try clear ho0); obtain ⟨Ao60, co60, eo60⟩ := Kd.R_slice HO317.out; subst eo60) | ((with_reducible refine gate_callee (f := 12) rfl ?_); refine goesL_ (some 118) rfl rfl Try.func12 (by kernel_rfl) rfl #[.slice Ao60 t315.length co60, .slice Ao38 t296.length co38] rfl (by (try simp only [List.map_toArray, List.map_cons, List.map_nil]); first | done | rfl | (simp only [List.length_drop, List.length_take]; rfl)) ?_; (with_reducible refine (miradorref15_Same.calls k2 _ _ t315 _ _ t296 true _ ?side1 ?side2 ?side3 ?side4 A51.out).mono ?_); (case side1 => repeat (first | exact (Kd.R_reads' HO317.out).2.2 | (with_reducible refine Kd.C_alloc ?_ _) | (with_reducible refine Kd.C_drewN ?_ _) | (with_reducible refine Kd.C_drew ?_))); (case side2 => exact (Kd.R_reads' HO317.out).2.1); (case side3 => repeat (first | exact (Kd.R_reads' HO_4.out).2.2 | (with_reducible refine Kd.C_alloc ?_ _) | (with_reducible refine Kd.C_drewN ?_ _) | (with_reducible refine Kd.C_drew ?_))); (case side4 => exact (Kd.R_reads' HO_4.out).2.1); rintro e w61 ⟨rfl, hb⟩; refine ⟨_, rfl, ?_⟩; have n0_ := Aside0.mk (Kd.R_below (by (with_reducible repeat (first | apply Kd.R_alloc | apply Kd.R_drewN | apply Kd.R_drew)); exact HO_4.out) hb); have n1_ := Aside0.mk (Kd.R_below (by (with_reducible repeat (first | apply Kd.R_alloc | apply Kd.R_drewN | apply Kd.R_drew)); exact HO_9.out) hb); have n2_ := Aside0.mk (Kd.R_below (by (with_reducible repeat (first | apply Kd.R_alloc | apply Kd.R_drewN | apply Kd.R_drew)); exact HO313.out) hb); have n3_ := Aside0.mk (Kd.R_below (by (with_reducible repeat (first | apply Kd.R_alloc | apply Kd.R_drewN | apply Kd.R_drew)); exact HO317.out) hb); have n4_ := Aside0.mk (below_step (by repeat (first | (with_reducible first | exact HB.out | apply below_alloc | apply pw_below_drewN | apply below_drew1) | exact HB.out)) hb); clear HO_4; clear HO_9; clear HO313; clear HO317; clear HB; have HO_4 := n0_; have HO_9 := n1_; have HO313 := n2_; have HO317 := n3_; have HB := n4_; clear n0_ n1_ n2_ n3_ n4_; (try clear hb); (try clear hb2); (try clear hk); (try clear hi)) | (go_at_call 13; (with_reducible refine (region_Area.calls k2 _ _ l0 t319 _ ?side1 ?side2 A54.out).mono ?_); (case side1 => repeat (first | exact (Kd.C_below HR0.out HB.out) | (with_reducible refine Kd.C_alloc ?_ _) | (with_reducible refine Kd.C_drewN ?_ _) | (with_reducible refine Kd.C_drew ?_))); (case side2 => exact HC0.out); rintro e w62 ⟨rfl, hb⟩; have n0_ := Aside0.mk (Kd.R_below (by (with_reducible repeat (first | apply Kd.R_alloc | apply Kd.R_drewN | apply Kd.R_drew)); exact HO_4.out) hb); have n1_ := Aside0.mk (Kd.R_below (by (with_reducible repeat (first | apply Kd.R_alloc | apply Kd.R_drewN | apply Kd.R_drew)); exact HO_9.out) hb); have n2_ := Aside0.mk (Kd.R_below (by (with_reducible repeat (first | apply Kd.R_alloc | apply Kd.R_drewN | apply Kd.R_drew)); exact HO313.out) hb); have n3_ := Aside0.mk (Kd.R_below (by (with_reducible repeat (first | apply Kd.R_alloc | apply Kd.R_drewN | apply Kd.R_drew)); exact HO317.out) hb); have n4_ := Aside0.mk (below_step (by repeat (first | (with_reducible first | exact HB.out | apply below_alloc | apply pw_below_drewN | apply below_drew1) | exact HB.out)) hb); clear HO_4; clear HO_9; clear HO313; clear HO317; clear HB; have HO_4 := n0_; have HO_9 := n1_; have HO313 := n2_; have HO317 := n3_; have HB := n4_; clear n0_ n1_ n2_ n3_ n4_; (try clear hb); (try clear hb2); (try clear hk); (try clear hi)))
                      go_ret
                      exact ⟨by first | rfl | (simp [errW_none, errW_some] <;> rfl) | (simp [*, errW_none, errW_some] <;> rfl), by repeat (first | (with_reducible first | exact HB.out | apply below_alloc | apply pw_below_drewN | apply below_drew1) | exact HB.out)⟩
                    · replace c53 := Bool.eq_false_iff.mpr c53
                      subst c53
                      have H1 : (some false) = some r := by rw [if_neg (show ¬ (false = true) by decide)] at H; exact H
                      clear H
                      have H := H1
                      clear H1
                      rw [HRT.out] at H
                      exact absurd (Option.some.inj H) (by decide)
                  · replace c52 := Bool.eq_false_iff.mpr c52
                    subst c52
                    have H1 : (some false) = some r := by rw [if_neg (show ¬ (false = true) by decide)] at H; exact H
                    clear H
                    have H := H1
                    clear H1
                    rw [HRT.out] at H
                    exact absurd (Option.some.inj H) (by decide)
  · replace c3 := Bool.eq_false_iff.mpr c3
    subst c3
    have H1 : (some false) = some r := by rw [if_neg (show ¬ (false = true) by decide)] at H; exact H
    clear H
    have H := H1
    clear H1
    rw [HRT.out] at H
    exact absurd (Option.some.inj H) (by decide)

end Go.Proofs.Ytkobiblgbpnlaaa.X
