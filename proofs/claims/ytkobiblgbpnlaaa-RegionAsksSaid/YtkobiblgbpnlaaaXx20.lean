/- What each Go function that these laws use answers: as a Lean function, with the proof that the machine's call comes to it. Written by a program of this session (xprint.py). -/
import Derived.Test.YtkobiblgbpnlaaaXx0
import Derived.Test.YtkobiblgbpnlaaaXx3
import Derived.Test.YtkobiblgbpnlaaaXx4
import Derived.Test.YtkobiblgbpnlaaaXx14
import Derived.Test.YtkobiblgbpnlaaaXx18
import Derived.Test.YtkobiblgbpnlaaaXx19
namespace Go.Proofs.Ytkobiblgbpnlaaa.X
open Go.RowKit Go.Proofs.YtkobiblgbpnlaaaW.PrintWords Go.Proofs.YtkobiblgbpnlaaaW.PrintLast Go.Proofs.YtkobiblgbpnlaaaW.PrintMore
attribute [local go_sem] max2_int min2_int max_two min_two max_three min_three max_four min_four   -- for this text's walks alone
set_option linter.unusedVariables false
set_option linter.unusedSimpArgs false

/-! ### region_Area: function 13 -/
def region_Area.l0 : Nat → Int → List (S26) → Int → Int → Option (Int)
  | 0, _, _, _, _ => none
  | k + 1, x3, x7, x8, x9 => if x9 < x8 then (if 0 ≤ x9 then (if x9 < (x7.length : Int) then (region_Area.l0 k (wrap64 (x3 + (wrap64 (((rd_T26 x7 x9).f2) * ((rd_T26 x7 x9).f3))))) x7 x8 (wrap64 (x9 + 1))) else (none)) else (none)) else (some x3)
def region_Area.f (k : Nat) (l0 : List (S26)) : Option (Int) := (region_Make.f l0).bind fun t260 => (region_Area.l0 k 0 t260 (t260.length : Int) 0)
theorem region_Area.mono_l : ∀ k, (∀ y0 y1 y2 y3, LeO (region_Area.l0 k y0 y1 y2 y3) (region_Area.l0 (k + 1) y0 y1 y2 y3))
  | 0 => fun _ _ _ _ r h => by simp [region_Area.l0] at h
  | k + 1 => by
    have ih0 := region_Area.mono_l k
    · intro y0 y1 y2 y3
      unfold region_Area.l0
      repeat' first
      | (with_reducible exact ih0 _ _ _ _)
      | (with_reducible exact LeO.refl _)
      | (with_reducible exact LeO.none _)
      | (with_reducible refine LeO.ite ?_ ?_)
      | (with_reducible refine LeO.bind ?_ (fun _ => ?_))
      | exact ih0 _ _ _ _
      | exact LeO.none _
      | refine LeO.ite ?_ ?_
      | refine LeO.bind ?_ (fun _ => ?_)
theorem region_Area.mono : ∀ a0 k, LeO (region_Area.f k a0) (region_Area.f (k + 1) a0) := by
  intro a0 k
  have ih0 := region_Area.mono_l k
  unfold region_Area.f
  repeat' first
      | (with_reducible exact ih0 _ _ _ _)
      | (with_reducible exact LeO.refl _)
      | (with_reducible exact LeO.none _)
      | (with_reducible refine LeO.ite ?_ ?_)
      | (with_reducible refine LeO.bind ?_ (fun _ => ?_))
      | exact ih0 _ _ _ _
      | exact LeO.none _
      | refine LeO.ite ?_ ?_
      | refine LeO.bind ?_ (fun _ => ?_)
set_option maxHeartbeats 8000000 in
set_option maxRecDepth 100000 in
theorem region_Area.calls (k : Nat) (A0 : Option Addr) (c0 : Nat) (l0 : List (S26)) (r : Int) (w : World) (hr0 : Kd.C k26 w A0 l0.length l0) (hc0 : l0.length ≤ c0) (h : region_Area.f k l0 = some r) :
    Calls Try.prog 13 #[.slice A0 l0.length c0] w fun e w' => e = .returned (.int .i64 r) ∧ Below w.heap.size w w' := by
  have hu26 := Try.underlying26
  have HR0 := Aside0.mk hr0
  have HC0 := Aside0.mk hc0
  clear hr0 hc0
  have HB := Aside0.mk (Below.refl w.heap.size w)
  have H : ((region_Make.f l0).bind fun t260 => (region_Area.l0 k 0 t260 (t260.length : Int) 0)) = some r := h
  clear h
  replace H := Option.bind_eq_some_iff.mp H
  obtain ⟨t260, A20, H⟩ := H
  replace H : (region_Area.l0 k 0 t260 (t260.length : Int) 0) = some r := H
  have A2 := Aside0.mk A20
  clear A20
  have H' := Aside0.mk H
  clear H
  go_enter Try.func13, Try.ntmps13
  go_wp2_with (first | ((with_reducible refine gate_callee (f := 11) rfl ?_); refine goesL_ (some 7) rfl rfl Try.func11 (by kernel_rfl) rfl #[.slice A0 l0.length c0] rfl (by (try simp only [List.map_toArray, List.map_cons, List.map_nil]); first | done | rfl | (simp only [List.length_drop, List.length_take]; rfl)) ?_; (with_reducible refine (region_Make.calls _ _ l0 t260 _ ?side1 ?side2 A2.out).mono ?_); (case side1 => repeat (first | exact HR0.out | (with_reducible refine Kd.C_alloc ?_ _) | (with_reducible refine Kd.C_drewN ?_ _) | (with_reducible refine Kd.C_drew ?_))); (case side2 => exact HC0.out); rintro e w3 ⟨v261, rfl, ho0, hb⟩; refine ⟨_, rfl, ?_⟩; have n0_ := Aside0.mk (Kd.R_lower ho0 (below_size (by repeat (first | (with_reducible first | exact HB.out | apply below_alloc | apply pw_below_drewN | apply below_drew1) | exact HB.out)))); have n1_ := Aside0.mk (below_step (by repeat (first | (with_reducible first | exact HB.out | apply below_alloc | apply pw_below_drewN | apply below_drew1) | exact HB.out)) hb); clear HB; have HO262 := n0_; have HB := n1_; clear n0_ n1_; (try clear hb); (try clear hb2); (try clear hk); (try clear hi); (try clear ho0); obtain ⟨Ao4, co4, eo4⟩ := Kd.R_slice HO262.out; subst eo4))
  go_loopg [3, 9] k (fun kq v3 v9 w' => ∃ (x3_1 : Int) (x9_1 : Int), v3 = .int .i64 x3_1 ∧ v9 = .int .i64 x9_1 ∧ Aside0 (region_Area.l0 kq x3_1 t260 (t260.length : Int) x9_1 = some r) ∧ Aside0 (kq ≤ k) ∧ Aside0 (Kd.R k26 26 w' w.heap.size (fun _ => True) (.slice Ao4 t260.length co4) t260) ∧ Aside0 (Below w.heap.size w w'))
  case atStart => exact ⟨(0), (0), (by first | rfl | (simp; done) | (simp [*]; done)), (by first | rfl | (simp; done) | (simp [*]; done)), H', ⟨Nat.le_refl _⟩, ⟨by (with_reducible repeat (first | apply Kd.R_alloc | apply Kd.R_drewN | apply Kd.R_drew)); exact HO262.out⟩, ⟨by repeat (first | (with_reducible first | exact HB.out | apply below_alloc | apply pw_below_drewN | apply below_drew1) | exact HB.out)⟩⟩
  case round =>
    clear H'
    try clear c1
    try clear p2
    obtain ⟨x3_1, x9_1, rfl, rfl, HA, HK1, HO_7, HB⟩ := hrel
    cases gk with
    | zero => exact absurd HA.out (by simp [region_Area.l0])
    | succ k1 =>
      have H := HA.out
      clear HA
      simp only [region_Area.l0] at H
      by_cases c5 : x9_1 < (t260.length : Int)
      · rw [if_pos c5] at H
        have c5b0 : decide (x9_1 < (t260.length : Int)) = true := decide_eq_true c5
        clear c5
        by_cases c6 : 0 ≤ x9_1
        · rw [if_pos c6] at H
          have c6b0 : decide (0 ≤ x9_1) = true := decide_eq_true c6
          clear c6
          by_cases c7 : x9_1 < (t260.length : Int)
          · rw [if_pos c7] at H
            have c7b0 : decide (x9_1 < (t260.length : Int)) = true := decide_eq_true c7
            clear c7
            have H' := Aside0.mk H
            clear H
            have p263 : 0 ≤ (x9_1 : Int) := of_decide_eq_true (by first | (with_reducible assumption) | assumption)
            have q263 : x9_1 < (t260.length : Int) := of_decide_eq_true (by first | (with_reducible assumption) | assumption)
            obtain ⟨ad263, e263, hx263_0, hx263_1, hx263_2, hx263_3⟩ := at_T26 (Kd.R_reads' HO_7.out).2.2 x9_1 p263 q263
            cases e263
            replace p263 := eq_true p263
            replace q263 := eq_true q263
            go_wp2_with (first | ((with_reducible refine gate_dst (N := 5) rfl ?_); refine box_event ?hg (N := 5) ?hd (cs := #[.int .i64 0, .int .i64 0, .int .i64 0, .int .i64 0]) (t := 26) ?hr ?_; (case hd => rfl); (case hg => rfl); (case hr => first | (go_simp; done) | (go_simp; rfl)); intro gb264 hg w8 hbox hb; have n0_ := Aside0.mk (Kd.R_below (Kd.R_elderB (by (with_reducible repeat (first | apply Kd.R_alloc | apply Kd.R_drewN | apply Kd.R_drew)); exact HO_7.out) gb264 (Nat.le_of_eq hg.symm)) hb); have n1_ := Aside0.mk (below_step (by repeat (first | (with_reducible first | exact HB.out | apply below_alloc | apply pw_below_drewN | apply below_drew1) | exact HB.out)) hb); have n2_ := Aside0.mk (hbox); have n3_ := Aside0.mk ((by rw [hg]; exact (below_size (by repeat (first | (with_reducible first | exact HB.out | apply below_alloc | apply pw_below_drewN | apply below_drew1) | exact HB.out))) : w.heap.size ≤ gb264)); have n4_ := Aside0.mk ((by rw [hg]; exact (below_size (by repeat (first | (with_reducible first | exact HB.out | apply below_alloc | apply pw_below_drewN | apply below_drew1) | exact HB.out))) : w.heap.size ≤ gb264)); clear HO_7; clear HB; have HO_7 := n0_; have HB := n1_; have BK264 := n2_; have GW264 := n3_; have GE264 := n4_; clear n0_ n1_ n2_ n3_ n4_; clear hb hbox hg; have hcz9_0 : w8.cell? ⟨gb264, 0, none⟩ = some (.int .i64 0) := (blk_cell BK264.out 0).trans rfl; have hcz9_1 : w8.cell? ⟨gb264, 1, none⟩ = some (.int .i64 0) := (blk_cell BK264.out 1).trans rfl; have hcz9_2 : w8.cell? ⟨gb264, 2, none⟩ = some (.int .i64 0) := (blk_cell BK264.out 2).trans rfl; have hcz9_3 : w8.cell? ⟨gb264, 3, none⟩ = some (.int .i64 0) := (blk_cell BK264.out 3).trans rfl; have hfz9_0 := blk_frozen BK264.out 0; have hfz9_1 := blk_frozen BK264.out 1; have hfz9_2 := blk_frozen BK264.out 2; have hfz9_3 := blk_frozen BK264.out 3))
            go_roundg k1
            case measure => have := HK1.out; omega
            case rel => exact ⟨(wrap64 (x3_1 + (wrap64 (((rd_T26 t260 x9_1).f2) * ((rd_T26 t260 x9_1).f3))))), (wrap64 (x9_1 + 1)), (by first | rfl | (simp; done) | (simp [*]; done)), (by first | rfl | (simp; done) | (simp [*]; done)), H', ⟨by have := HK1.out; omega⟩, ⟨by (with_reducible repeat (first | apply Kd.R_alloc | apply Kd.R_drewN | apply Kd.R_drew)); exact Kd.R_mono (Kd.R_far (p := ⟨gb264, 3, none⟩) (Kd.R_far (p := ⟨gb264, 2, none⟩) (Kd.R_far (p := ⟨gb264, 1, none⟩) (Kd.R_far (p := ⟨gb264, 0, none⟩) (Kd.R_mono HO_7.out (fun k_ hk => (⟨hk, hk.2⟩ : _ ∧ k_ ≠ gb264))) (fun _ hk => hk.2) (.int .i64 ((rd_T26 t260 x9_1).f0))) (fun _ hk => hk.2) (.int .i64 ((rd_T26 t260 x9_1).f1))) (fun _ hk => hk.2) (.int .i64 ((rd_T26 t260 x9_1).f2))) (fun _ hk => hk.2) (.int .i64 ((rd_T26 t260 x9_1).f3))) (fun _ hk => trivial)⟩, ⟨by repeat (first | (with_reducible first | exact HB.out | apply below_alloc | apply pw_below_drewN | apply below_drew1 | refine below_set ?_ GE264.out) | exact HB.out)⟩⟩
          · rw [if_neg c7] at H
            exact absurd H (by simp)
        · rw [if_neg c6] at H
          exact absurd H (by simp)
      · rw [if_neg c5] at H
        have c5b0 : decide (x9_1 < (t260.length : Int)) = false := decide_eq_false c5
        clear c5
        obtain rfl := Option.some.inj H
        go_wp2
        go_ret
        exact ⟨by first | rfl | (simp [errW_none, errW_some] <;> rfl) | (simp [*, errW_none, errW_some] <;> rfl), by repeat (first | (with_reducible first | exact HB.out | apply below_alloc | apply pw_below_drewN | apply below_drew1) | exact HB.out)⟩

/-! ### region_Minus: function 16 -/
def keepMinus : Bool → Bool → Bool := fun a b => a && !b
theorem keepMinus_c (W : World) (x y : Bool) : Calls Try.prog 31 #[.bool x, .bool y] W fun e w' => e = .returned (.bool (keepMinus x y)) ∧ w' = W := by
  cases x <;> cases y <;>
  · go_enter Try.func31, Try.ntmps31
    go_wp2
    go_ret
    exact ⟨rfl, rfl⟩
def region_Minus.f (l0 l1 : List S26) : Option (List S26) := if l0.length + l1.length ≤ 5000 then some (combS keepMinus l0 l1) else none
set_option maxRecDepth 100000 in
theorem region_Minus.calls (A0 : Option Addr) (c0 : Nat) (l0 : List S26) (A1 : Option Addr) (c1 : Nat) (l1 : List S26) (r : List S26) (w : World) (hr0 : Kd.C k26 w A0 l0.length l0) (hc0 : l0.length ≤ c0) (hr1 : Kd.C k26 w A1 l1.length l1) (hc1 : l1.length ≤ c1) (h : region_Minus.f l0 l1 = some r) :
    Calls Try.prog 16 #[.slice A0 l0.length c0, .slice A1 l1.length c1] w fun e w' => ∃ v0_ : Value, e = .returned (v0_) ∧ Kd.R k26 26 w' w.heap.size (fun _ => True) v0_ r ∧ Below w.heap.size w w' := by
  unfold region_Minus.f at h
  split at h <;> cases h
  have HL := Lib.hid ‹l0.length + l1.length ≤ 5000›
  have HR0 := Lib.hid hr0; have HC0 := Lib.hid hc0; have HR1 := Lib.hid hr1; have HC1 := Lib.hid hc1
  clear hr0 hc0 hr1 hc1
  go_enter Try.func16, Try.ntmps16
  go_wp2_with fail
  refine (combine_c _ keepMinus (enters_of Try.func31 (by kernel_rfl) rfl) keepMinus_c A0 A1 c0 c1 l0 l1 w HR0.out HR1.out HC0.out HC1.out HL.out).mono ?_
  rintro e w' ⟨v, rfl, ho, hb⟩
  obtain ⟨A', c', rfl⟩ := own_slice ho
  have HO := Lib.hid ho; have HB := Lib.hid hb; clear ho hb
  go_wp2
  go_ret
  exact ⟨_, rfl, R_of_rect HO.out, HB.out⟩

/-! ### region_Has: function 18 -/
def region_Has.f (k : Nat) (l0 : List (S26)) (a1 : Int) (a2 : Int) : Option (Bool) := (region_counting.f k l0).bind fun t265 => ((region_pieces.f k t265 a2).bind fun t268 => ((region_in.f t268 a1).bind fun t271 => (some t271)))
theorem region_Has.mono : ∀ a0 a1 a2 k, LeO (region_Has.f k a0 a1 a2) (region_Has.f (k + 1) a0 a1 a2) := by
  intro a0 a1 a2 k
  unfold region_Has.f
  repeat' first
      | (with_reducible exact region_counting.mono _ _)
      | (with_reducible exact region_pieces.mono _ _ _)
      | (with_reducible exact LeO.refl _)
      | (with_reducible exact LeO.none _)
      | (with_reducible refine LeO.ite ?_ ?_)
      | (with_reducible refine LeO.bind ?_ (fun _ => ?_))
      | exact region_counting.mono _ _
      | exact region_pieces.mono _ _ _
      | exact LeO.none _
      | refine LeO.ite ?_ ?_
      | refine LeO.bind ?_ (fun _ => ?_)
set_option maxHeartbeats 8000000 in
set_option maxRecDepth 100000 in
theorem region_Has.calls (k : Nat) (A0 : Option Addr) (c0 : Nat) (l0 : List (S26)) (a1 : Int) (a2 : Int) (r : Bool) (w : World) (hr0 : Kd.C k26 w A0 l0.length l0) (hc0 : l0.length ≤ c0) (h : region_Has.f k l0 a1 a2 = some r) :
    Calls Try.prog 18 #[.slice A0 l0.length c0, .int .i64 a1, .int .i64 a2] w fun e w' => e = .returned (.bool r) ∧ Below w.heap.size w w' := by
  have HR0 := Aside0.mk hr0
  have HC0 := Aside0.mk hc0
  clear hr0 hc0
  have HB := Aside0.mk (Below.refl w.heap.size w)
  have H : ((region_counting.f k l0).bind fun t265 => ((region_pieces.f k t265 a2).bind fun t268 => ((region_in.f t268 a1).bind fun t271 => (some t271)))) = some r := h
  clear h
  replace H := Option.bind_eq_some_iff.mp H
  obtain ⟨t265, A40, H⟩ := H
  replace H : ((region_pieces.f k t265 a2).bind fun t268 => ((region_in.f t268 a1).bind fun t271 => (some t271))) = some r := H
  have A4 := Aside0.mk A40
  clear A40
  replace H := Option.bind_eq_some_iff.mp H
  obtain ⟨t268, A50, H⟩ := H
  replace H : ((region_in.f t268 a1).bind fun t271 => (some t271)) = some r := H
  have A5 := Aside0.mk A50
  clear A50
  replace H := Option.bind_eq_some_iff.mp H
  obtain ⟨t271, A60, H⟩ := H
  replace H : (some t271) = some r := H
  have A6 := Aside0.mk A60
  clear A60
  obtain rfl := Option.some.inj H
  go_enter Try.func18, Try.ntmps18
  go_wp2_with (first | ((with_reducible refine gate_callee (f := 35) rfl ?_); refine goesL_ (some 8) rfl rfl Try.func35 (by kernel_rfl) rfl #[.slice A0 l0.length c0] rfl (by (try simp only [List.map_toArray, List.map_cons, List.map_nil]); first | done | rfl | (simp only [List.length_drop, List.length_take]; rfl)) ?_; (with_reducible refine (region_counting.calls k _ _ l0 t265 _ ?side1 ?side2 A4.out).mono ?_); (case side1 => repeat (first | exact HR0.out | (with_reducible refine Kd.C_alloc ?_ _) | (with_reducible refine Kd.C_drewN ?_ _) | (with_reducible refine Kd.C_drew ?_))); (case side2 => exact HC0.out); rintro e w7 ⟨v266, rfl, ho0, hb⟩; refine ⟨_, rfl, ?_⟩; have n0_ := Aside0.mk (Kd.R_lower ho0 (below_size (by repeat (first | (with_reducible first | exact HB.out | apply below_alloc | apply pw_below_drewN | apply below_drew1) | exact HB.out)))); have n1_ := Aside0.mk (below_step (by repeat (first | (with_reducible first | exact HB.out | apply below_alloc | apply pw_below_drewN | apply below_drew1) | exact HB.out)) hb); clear HB; have HO267 := n0_; have HB := n1_; clear n0_ n1_; (try clear hb); (try clear hb2); (try clear hk); (try clear hi); (try clear ho0); obtain ⟨Ao8, co8, eo8⟩ := Kd.R_slice HO267.out; subst eo8) | ((with_reducible refine gate_callee (f := 34) rfl ?_); refine goesL_ (some 10) rfl rfl Try.func34 (by kernel_rfl) rfl #[.slice Ao8 t265.length co8, .int .i64 a2] rfl (by (try simp only [List.map_toArray, List.map_cons, List.map_nil]); first | done | rfl | (simp only [List.length_drop, List.length_take]; rfl)) ?_; (with_reducible refine (region_pieces.calls k _ _ t265 a2 t268 _ ?side1 ?side2 A5.out).mono ?_); (case side1 => repeat (first | exact (Kd.R_reads' HO267.out).2.2 | (with_reducible refine Kd.C_alloc ?_ _) | (with_reducible refine Kd.C_drewN ?_ _) | (with_reducible refine Kd.C_drew ?_))); (case side2 => exact (Kd.R_reads' HO267.out).2.1); rintro e w9 ⟨v269, rfl, ho0, hb⟩; refine ⟨_, rfl, ?_⟩; have n0_ := Aside0.mk (Kd.R_below (by (with_reducible repeat (first | apply Kd.R_alloc | apply Kd.R_drewN | apply Kd.R_drew)); exact HO267.out) hb); have n1_ := Aside0.mk (Kd.R_lower ho0 (below_size (by repeat (first | (with_reducible first | exact HB.out | apply below_alloc | apply pw_below_drewN | apply below_drew1) | exact HB.out)))); have n2_ := Aside0.mk (below_step (by repeat (first | (with_reducible first | exact HB.out | apply below_alloc | apply pw_below_drewN | apply below_drew1) | exact HB.out)) hb); clear HO267; clear HB; have HO267 := n0_; have HO270 := n1_; have HB := n2_; clear n0_ n1_ n2_; (try clear hb); (try clear hb2); (try clear hk); (try clear hi); (try clear ho0); obtain ⟨Ao10, co10, eo10⟩ := Kd.R_slice HO270.out; subst eo10) | ((with_reducible refine gate_callee (f := 33) rfl ?_); refine goesL_ (some 12) rfl rfl Try.func33 (by kernel_rfl) rfl #[.slice Ao10 t268.length co10, .int .i64 a1] rfl (by (try simp only [List.map_toArray, List.map_cons, List.map_nil]); first | done | rfl | (simp only [List.length_drop, List.length_take]; rfl)) ?_; (with_reducible refine (region_in.calls _ _ t268 a1 t271 _ ?side1 ?side2 A6.out).mono ?_); (case side1 => repeat (first | exact (Kd.R_reads' HO270.out).2.2 | (with_reducible refine Kd.C_alloc ?_ _) | (with_reducible refine Kd.C_drewN ?_ _) | (with_reducible refine Kd.C_drew ?_))); (case side2 => exact (Kd.R_reads' HO270.out).2.1); rintro e w11 ⟨rfl, hb⟩; refine ⟨_, rfl, ?_⟩; have n0_ := Aside0.mk (Kd.R_below (by (with_reducible repeat (first | apply Kd.R_alloc | apply Kd.R_drewN | apply Kd.R_drew)); exact HO267.out) hb); have n1_ := Aside0.mk (Kd.R_below (by (with_reducible repeat (first | apply Kd.R_alloc | apply Kd.R_drewN | apply Kd.R_drew)); exact HO270.out) hb); have n2_ := Aside0.mk (below_step (by repeat (first | (with_reducible first | exact HB.out | apply below_alloc | apply pw_below_drewN | apply below_drew1) | exact HB.out)) hb); clear HO267; clear HO270; clear HB; have HO267 := n0_; have HO270 := n1_; have HB := n2_; clear n0_ n1_ n2_; (try clear hb); (try clear hb2); (try clear hk); (try clear hi)))
  go_ret
  exact ⟨by first | rfl | (simp [errW_none, errW_some] <;> rfl) | (simp [*, errW_none, errW_some] <;> rfl), by repeat (first | (with_reducible first | exact HB.out | apply below_alloc | apply pw_below_drewN | apply below_drew1) | exact HB.out)⟩

end Go.Proofs.Ytkobiblgbpnlaaa.X
