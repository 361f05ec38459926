/- What each Go function that these laws use answers: as a Lean function, with the proof that the machine's call comes to it. Written by a program of this session (xprint.py). -/
import Derived.Test.YtaielfghgmghgaaXx0
import Derived.Test.YtaielfghgmghgaaXx2
import Derived.Test.YtaielfghgmghgaaXx3
import Derived.Test.YtaielfghgmghgaaXx12
namespace Go.Proofs.Ytaielfghgmghgaa.X
open Go.RowKit Go.Proofs.YtaielfghgmghgaaW.PrintWords Go.Proofs.YtaielfghgmghgaaW.PrintLast Go.Proofs.YtaielfghgmghgaaW.PrintMore
attribute [local go_sem] max2_int min2_int max_two min_two max_three min_three max_four min_four   -- for this text's walks alone
set_option linter.unusedVariables false
set_option linter.unusedSimpArgs false

/-! ### format_put: function 47 -/
def format_put.l0 : Nat → Int → List Int → Int → Int → Int → Int → Bool → Bool → Int → Int → Int → Int → Int → Int → Option (ByteArray)
  | 0, _, _, _, _, _, _, _, _, _, _, _, _, _, _ => none
  | k + 1, x2, x7, x9, x10, x349000, x349001, x349002, x349003, x349004, x349005, x349006, x349007, x349008, x349009 => if x10 < x9 then (if 0 ≤ (wrap64 (8 * x10)) then (if x7.length < 140737488355328 then (format_put.l0 k x2 (x7 ++ [(shr .i64 x2 (wrap64 (8 * x10))) % 256]) x9 (wrap64 (x10 + 1)) x349000 x349001 x349002 x349003 x349004 x349005 x349006 x349007 x349008 x349009) else (none)) else (none)) else (if x349002 = true then ((slices_Reverse_byte_byte.f k x7).bind fun t352 => (some (strOfNums t352))) else (some (strOfNums x7)))
def format_put.f (k : Nat) (a0_0 : Int) (a0_1 : Int) (a0_2 : Bool) (a0_3 : Bool) (a0_4 : Int) (a0_5 : Int) (a0_6 : Int) (a0_7 : Int) (a0_8 : Int) (a0_9 : Int) (a1 : Int) (a2 : Int) : Option (ByteArray) := format_put.l0 k a2 ([] : List Int) a1 0 a0_0 a0_1 a0_2 a0_3 a0_4 a0_5 a0_6 a0_7 a0_8 a0_9
theorem format_put.mono_l : ∀ k, (∀ y0 y1 y2 y3 y4 y5 y6 y7 y8 y9 y10 y11 y12 y13, LeO (format_put.l0 k y0 y1 y2 y3 y4 y5 y6 y7 y8 y9 y10 y11 y12 y13) (format_put.l0 (k + 1) y0 y1 y2 y3 y4 y5 y6 y7 y8 y9 y10 y11 y12 y13))
  | 0 => fun _ _ _ _ _ _ _ _ _ _ _ _ _ _ r h => by simp [format_put.l0] at h
  | k + 1 => by
    have ih0 := format_put.mono_l k
    · intro y0 y1 y2 y3 y4 y5 y6 y7 y8 y9 y10 y11 y12 y13
      unfold format_put.l0
      repeat' first
      | (with_reducible exact ih0 _ _ _ _ _ _ _ _ _ _ _ _ _ _)
      | (with_reducible exact slices_Reverse_byte_byte.mono _ _)
      | (with_reducible exact LeO.refl _)
      | (with_reducible exact LeO.none _)
      | (with_reducible refine LeO.ite ?_ ?_)
      | (with_reducible refine LeO.bind ?_ (fun _ => ?_))
      | exact ih0 _ _ _ _ _ _ _ _ _ _ _ _ _ _
      | exact slices_Reverse_byte_byte.mono _ _
      | exact LeO.none _
      | refine LeO.ite ?_ ?_
      | refine LeO.bind ?_ (fun _ => ?_)
theorem format_put.mono : ∀ a0 a1 a2 a3 a4 a5 a6 a7 a8 a9 a10 a11 k, LeO (format_put.f k a0 a1 a2 a3 a4 a5 a6 a7 a8 a9 a10 a11) (format_put.f (k + 1) a0 a1 a2 a3 a4 a5 a6 a7 a8 a9 a10 a11) := by
  intro a0 a1 a2 a3 a4 a5 a6 a7 a8 a9 a10 a11 k
  have ih0 := format_put.mono_l k
  unfold format_put.f
  repeat' first
      | (with_reducible exact ih0 _ _ _ _ _ _ _ _ _ _ _ _ _ _)
      | (with_reducible exact slices_Reverse_byte_byte.mono _ _)
      | (with_reducible exact LeO.refl _)
      | (with_reducible exact LeO.none _)
      | (with_reducible refine LeO.ite ?_ ?_)
      | (with_reducible refine LeO.bind ?_ (fun _ => ?_))
      | exact ih0 _ _ _ _ _ _ _ _ _ _ _ _ _ _
      | exact slices_Reverse_byte_byte.mono _ _
      | exact LeO.none _
      | refine LeO.ite ?_ ?_
      | refine LeO.bind ?_ (fun _ => ?_)
set_option maxHeartbeats 8000000 in
set_option maxRecDepth 100000 in
theorem format_put.calls (k : Nat) (a0_0 : Int) (a0_1 : Int) (a0_2 : Bool) (a0_3 : Bool) (a0_4 : Int) (a0_5 : Int) (a0_6 : Int) (a0_7 : Int) (a0_8 : Int) (a0_9 : Int) (a1 : Int) (a2 : Int) (r : ByteArray) (w : World) (h : format_put.f k a0_0 a0_1 a0_2 a0_3 a0_4 a0_5 a0_6 a0_7 a0_8 a0_9 a1 a2 = some r) :
    Calls Try.prog 47 #[.agg #[.int .i64 a0_0, .int .i64 a0_1, .bool a0_2, .bool a0_3, .int .i64 a0_4, .int .i64 a0_5, .int .i64 a0_6, .int .i64 a0_7, .int .i64 a0_8, .int .i64 a0_9], .int .i64 a1, .int .i64 a2] w fun e w' => e = .returned (.string r) ∧ Below w.heap.size w w' := by
  have hu23 := Try.underlying23
  have HB := Aside0.mk (Below.refl w.heap.size w)
  have H : (format_put.l0 k a2 ([] : List Int) a1 0 a0_0 a0_1 a0_2 a0_3 a0_4 a0_5 a0_6 a0_7 a0_8 a0_9) = some r := h
  clear h
  have H' := Aside0.mk H
  clear H
  go_enter Try.func47, Try.ntmps47
  go_wp2_with (first | ((with_reducible refine gate_dst (N := 3) rfl ?_); refine box_event ?hg (N := 3) ?hd (cs := #[.int .i64 a0_0, .int .i64 a0_1, .bool a0_2, .bool a0_3, .int .i64 a0_4, .int .i64 a0_5, .int .i64 a0_6, .int .i64 a0_7, .int .i64 a0_8, .int .i64 a0_9]) (t := 23) ?hr ?_; (case hd => rfl); (case hg => rfl); (case hr => first | (go_simp; done) | (go_simp; rfl)); intro gb348 hg w4 hbox hb; have n0_ := Aside0.mk (below_step (by repeat (first | (with_reducible first | exact HB.out | apply below_alloc | apply pw_below_drewN | apply below_drew1) | exact HB.out)) hb); have n1_ := Aside0.mk (hbox); have n2_ := Aside0.mk ((by rw [hg]; exact (below_size (by repeat (first | (with_reducible first | exact HB.out | apply below_alloc | apply pw_below_drewN | apply below_drew1) | exact HB.out))) : w.heap.size ≤ gb348)); have n3_ := Aside0.mk ((by rw [hg]; exact (below_size (by repeat (first | (with_reducible first | exact HB.out | apply below_alloc | apply pw_below_drewN | apply below_drew1) | exact HB.out))) : w.heap.size ≤ gb348)); clear HB; have HB := n0_; have BK348 := n1_; have GW348 := n2_; have GE348 := n3_; clear n0_ n1_ n2_ n3_; clear hb hbox hg))
  go_loopg [7, 10] k (fun kq v7 v10 w' => ∃ (x7_1 : List Int) (x10_1 : Int), v10 = .int .i64 x10_1 ∧ Aside0 (format_put.l0 kq a2 x7_1 a1 x10_1 a0_0 a0_1 a0_2 a0_3 a0_4 a0_5 a0_6 a0_7 a0_8 a0_9 = some r) ∧ Aside0 (kq ≤ k) ∧ Aside0 (Kd.R (Kd.int .u8) 5 w' w.heap.size (fun _ => True) v7 x7_1) ∧ Aside0 (w'.heap[gb348]? = some (.cells #[.int .i64 a0_0, .int .i64 a0_1, .bool a0_2, .bool a0_3, .int .i64 a0_4, .int .i64 a0_5, .int .i64 a0_6, .int .i64 a0_7, .int .i64 a0_8, .int .i64 a0_9] 23 (0, 0))) ∧ Aside0 (Below w.heap.size w w'))
  case atStart => exact ⟨(([] : List Int)), (0), (by first | rfl | (simp; done) | (simp [*]; done)), H', ⟨Nat.le_refl _⟩, ⟨by first | exact Kd.R_nil _ _ _ _ _ | exact Kd.N_nil _ _ _ _ _ | exact Kd.V_nil _ _ _ _ _ | exact Kd.Q_nil _ _ _ _ _ | exact Kd.S_nil _ _ _ _ _⟩, ⟨by (with_reducible repeat (first | refine blk_drewN ?_ _ | refine blk_drew ?_ | refine blk_alloc ?_ _)); exact BK348.out⟩, ⟨by repeat (first | (with_reducible first | exact HB.out | apply below_alloc | apply pw_below_drewN | apply below_drew1 | refine below_set ?_ GE348.out) | exact HB.out)⟩⟩
  case round =>
    clear H'
    try clear p2
    try clear c4
    obtain ⟨x7_1, x10_1, rfl, HA, HK1, HO_7, BK348, HB⟩ := hrel
    cases gk with
    | zero => exact absurd HA.out (by simp [format_put.l0])
    | succ k1 =>
      have H := HA.out
      clear HA
      simp only [format_put.l0] at H
      by_cases c5 : x10_1 < a1
      · rw [if_pos c5] at H
        have c5b0 : decide (x10_1 < a1) = true := decide_eq_true c5
        clear c5
        obtain ⟨ji6, hji6⟩ : ∃ j_ : Int, (wrap64 (8 * x10_1)) = j_ := ⟨_, rfl⟩
        replace H : (if 0 ≤ (ji6) then (if x7_1.length < 140737488355328 then (format_put.l0 k1 a2 (x7_1 ++ [(shr .i64 a2 (ji6)) % 256]) a1 (wrap64 (x10_1 + 1)) a0_0 a0_1 a0_2 a0_3 a0_4 a0_5 a0_6 a0_7 a0_8 a0_9) else (none)) else (none)) = some r := by first | (rw [hji6] at H; exact H) | (simp only [hji6] at H ⊢; exact H)
        have hji6w : (IntKind.i64.wrap (8 * x10_1)) = ji6 := (i64_w _).trans hji6
        by_cases c7 : 0 ≤ (ji6)
        · rw [if_pos c7] at H
          have c7b0 := eq_true c7
          have c7b1 : decide (0 ≤ (ji6)) = true := decide_eq_true c7
          clear c7
          obtain ⟨ji8, hji8⟩ : ∃ j_ : Int, (shr .i64 a2 (ji6)) = j_ := ⟨_, rfl⟩
          replace H : (if x7_1.length < 140737488355328 then (format_put.l0 k1 a2 (x7_1 ++ [(ji8) % 256]) a1 (wrap64 (x10_1 + 1)) a0_0 a0_1 a0_2 a0_3 a0_4 a0_5 a0_6 a0_7 a0_8 a0_9) else (none)) = some r := by first | (rw [hji8] at H; exact H) | (simp only [hji8] at H ⊢; exact H)
          have hji8_ : (a2 / 2 ^ min (ji6).toNat 64) = ji8 := hji8
          have hji8z : (ji6) ≤ 64 → (a2 / 2 ^ (ji6).toNat) = ji8 := shr_small hji8
          by_cases c9 : x7_1.length < 140737488355328
          · rw [if_pos c9] at H
            have LMc9 := Aside0.mk c9
            clear c9
            obtain ⟨y349, hy349⟩ : ∃ y_ : List Int, y_ = (x7_1 ++ [(ji8) % 256]) := ⟨_, rfl⟩
            replace H : (format_put.l0 k1 a2 y349 a1 (wrap64 (x10_1 + 1)) a0_0 a0_1 a0_2 a0_3 a0_4 a0_5 a0_6 a0_7 a0_8 a0_9) = some r := by first | (rw [hy349]; with_reducible exact H) | (have H2_ := (Option.bind_some _ _).symm.trans H; rw [hy349]; with_reducible exact H2_) | (have H2_ := (Option.bind_some _ _).symm.trans H; with_reducible exact H2_) | with_reducible exact H | (rw [hy349]; exact H) | exact H
            have Ny349 := Aside0.mk hy349
            clear hy349
            have H' := Aside0.mk H
            clear H
            go_wp2_with (first | ((with_reducible refine gate_builtin (b := .append) (xs := #[.tmp 13, .tmp 19]) rfl ?_); at_builtin; refine Kd.R_append (Kd.int .u8) (w0 := w) w.heap.size rfl (.tmp 13) (.tmp 19) 72 5 (.int .u8 0) 1 rfl Try.underlying72 info5 rfl (by decide) (by omega) u7 x7_1 ((ji8) % 256) [.int .u8 ((ji8) % 256)] (fun _ => True) (fun _ => False) rfl rfl ?aP (fun _ hk => hk.elim) ?aF ?aO ?aB ?aS ?aL ?_; (case aP => exact rfl); (case aB => exact (by repeat (first | (with_reducible first | exact HB.out | apply below_alloc | apply pw_below_drewN | apply below_drew1 | refine below_set ?_ GE348.out) | exact HB.out))); (case aF => exact (fun _ _ => trivial)); (case aO => exact (by (with_reducible repeat (first | apply Kd.R_alloc | apply Kd.R_drewN | apply Kd.R_drew)); exact HO_7.out)); (case aS => exact (below_size (by repeat (first | (with_reducible first | exact HB.out | apply below_alloc | apply pw_below_drewN | apply below_drew1 | refine below_set ?_ GE348.out) | exact HB.out)))); (case aL => have := LMc9.out; omega); intro v350 w10 ho hb hg hat; rw [← Ny349.out] at ho; have n0_ := Aside0.mk (blk_grown (g := gb348) (o := .cells #[.int .i64 a0_0, .int .i64 a0_1, .bool a0_2, .bool a0_3, .int .i64 a0_4, .int .i64 a0_5, .int .i64 a0_6, .int .i64 a0_7, .int .i64 a0_8, .int .i64 a0_9] 23 (0, 0)) (by (with_reducible repeat (first | refine blk_drewN ?_ _ | refine blk_drew ?_ | refine blk_alloc ?_ _)); exact BK348.out) hg (Kd.R_ne HO_7.out BK348.out (by decide))); have n1_ := Aside0.mk (hb); have n2_ := Aside0.mk (ho); clear BK348; clear HB; clear HO_7; have BK348 := n0_; have HB := n1_; have HO351 := n2_; clear n0_ n1_ n2_; clear ho hb hg hat))
            go_roundg k1
            case measure => have := HK1.out; omega
            case rel => exact ⟨(y349), (wrap64 (x10_1 + 1)), (by first | rfl | (simp; done) | (simp [*]; done)), H', ⟨by have := HK1.out; omega⟩, ⟨by (with_reducible repeat (first | apply Kd.R_alloc | apply Kd.R_drewN | apply Kd.R_drew)); exact HO351.out⟩, ⟨by (with_reducible repeat (first | refine blk_drewN ?_ _ | refine blk_drew ?_ | refine blk_alloc ?_ _)); exact BK348.out⟩, ⟨by repeat (first | (with_reducible first | exact HB.out | apply below_alloc | apply pw_below_drewN | apply below_drew1 | refine below_set ?_ GE348.out) | exact HB.out)⟩⟩
          · rw [if_neg c9] at H
            exact absurd H (by simp)
        · rw [if_neg c7] at H
          exact absurd H (by simp)
      · rw [if_neg c5] at H
        have c5b0 : decide (x10_1 < a1) = false := decide_eq_false c5
        clear c5
        by_cases c11 : a0_2 = true
        · subst c11
          have H1 : ((slices_Reverse_byte_byte.f k1 x7_1).bind fun t352 => (some (strOfNums t352))) = some r := by rw [if_pos rfl] at H; exact H
          clear H
          have H := H1
          clear H1
          replace H := Option.bind_eq_some_iff.mp H
          obtain ⟨t352, A120, H⟩ := H
          replace H : (some (strOfNums t352)) = some r := H
          have A12 := Aside0.mk A120
          clear A120
          obtain rfl := Option.some.inj H
          have hcz13_0 : wr.cell? ⟨gb348, 0, none⟩ = some (.int .i64 a0_0) := (blk_cell BK348.out 0).trans rfl
          have hcz13_1 : wr.cell? ⟨gb348, 1, none⟩ = some (.int .i64 a0_1) := (blk_cell BK348.out 1).trans rfl
          have hcz13_2 : wr.cell? ⟨gb348, 2, none⟩ = some (.bool true) := (blk_cell BK348.out 2).trans rfl
          have hcz13_3 : wr.cell? ⟨gb348, 3, none⟩ = some (.bool a0_3) := (blk_cell BK348.out 3).trans rfl
          have hcz13_4 : wr.cell? ⟨gb348, 4, none⟩ = some (.int .i64 a0_4) := (blk_cell BK348.out 4).trans rfl
          have hcz13_5 : wr.cell? ⟨gb348, 5, none⟩ = some (.int .i64 a0_5) := (blk_cell BK348.out 5).trans rfl
          have hcz13_6 : wr.cell? ⟨gb348, 6, none⟩ = some (.int .i64 a0_6) := (blk_cell BK348.out 6).trans rfl
          have hcz13_7 : wr.cell? ⟨gb348, 7, none⟩ = some (.int .i64 a0_7) := (blk_cell BK348.out 7).trans rfl
          have hcz13_8 : wr.cell? ⟨gb348, 8, none⟩ = some (.int .i64 a0_8) := (blk_cell BK348.out 8).trans rfl
          have hcz13_9 : wr.cell? ⟨gb348, 9, none⟩ = some (.int .i64 a0_9) := (blk_cell BK348.out 9).trans rfl
          have hfz13_0 := blk_frozen BK348.out 0
          have hfz13_1 := blk_frozen BK348.out 1
          have hfz13_2 := blk_frozen BK348.out 2
          have hfz13_3 := blk_frozen BK348.out 3
          have hfz13_4 := blk_frozen BK348.out 4
          have hfz13_5 := blk_frozen BK348.out 5
          have hfz13_6 := blk_frozen BK348.out 6
          have hfz13_7 := blk_frozen BK348.out 7
          have hfz13_8 := blk_frozen BK348.out 8
          have hfz13_9 := blk_frozen BK348.out 9
          obtain ⟨Ao14, co14, eo14⟩ := Kd.R_slice HO_7.out
          subst eo14
          go_wp2_with (first | ((with_reducible refine gate_callee (f := 58) rfl ?_); refine goesL_ (some 25) rfl rfl Try.func58 (by kernel_rfl) rfl #[.slice Ao14 x7_1.length co14] rfl (by (try simp only [List.map_toArray, List.map_cons, List.map_nil]); first | done | rfl | (simp only [List.length_drop, List.length_take]; rfl)) ?_; (with_reducible refine (slices_Reverse_byte_byte.calls k1 (fun k_ => some k_ = (.slice Ao14 x7_1.length co14 : Value).ownBlock) (.slice Ao14 x7_1.length co14) x7_1 t352 w _ ?side1 ?side2 A12.out).mono ?_); (case side1 => repeat (first | (with_reducible first | exact HB.out | apply below_alloc | apply pw_below_drewN | apply below_drew1 | refine below_set ?_ GE348.out) | exact HB.out)); (case side2 => exact Kd.R_tight rfl HO_7.out); rintro e w15 ⟨rfl, hy0, hb, hkp⟩; refine ⟨_, rfl, ?_⟩; have n0_ := Aside0.mk (Kd.R_reok rfl hy0 (fun k_ e_ => HO_7.out.1 k_ e_)); have n1_ := Aside0.mk (blk_kept (by (with_reducible repeat (first | refine blk_drewN ?_ _ | refine blk_drew ?_ | refine blk_alloc ?_ _)); exact BK348.out) hkp (fun hs_ => (fun e_ => (Kd.R_ne HO_7.out BK348.out (by decide)) e_) hs_)); have n2_ := Aside0.mk (hb); clear HO_7; clear BK348; clear HB; have HO_7 := n0_; have BK348 := n1_; have HB := n2_; clear n0_ n1_ n2_; (try clear hb); (try clear hkp); (try clear hy0); have hcv16 := own_string (P := Try.prog) Try.underlying72 Try.underlying5 Try.underlying9 (Kd.own_of_R HO_7.out)))
          go_ret
          exact ⟨by first | rfl | (simp [errW_none, errW_some] <;> rfl) | (simp [*, errW_none, errW_some] <;> rfl), by repeat (first | (with_reducible first | exact HB.out | apply below_alloc | apply pw_below_drewN | apply below_drew1 | refine below_set ?_ GE348.out) | exact HB.out)⟩
        · replace c11 := Bool.eq_false_iff.mpr c11
          subst c11
          have H1 : (some (strOfNums x7_1)) = some r := by rw [if_neg (show ¬ (false = true) by decide)] at H; exact H
          clear H
          have H := H1
          clear H1
          obtain rfl := Option.some.inj H
          have hcz17_0 : wr.cell? ⟨gb348, 0, none⟩ = some (.int .i64 a0_0) := (blk_cell BK348.out 0).trans rfl
          have hcz17_1 : wr.cell? ⟨gb348, 1, none⟩ = some (.int .i64 a0_1) := (blk_cell BK348.out 1).trans rfl
          have hcz17_2 : wr.cell? ⟨gb348, 2, none⟩ = some (.bool false) := (blk_cell BK348.out 2).trans rfl
          have hcz17_3 : wr.cell? ⟨gb348, 3, none⟩ = some (.bool a0_3) := (blk_cell BK348.out 3).trans rfl
          have hcz17_4 : wr.cell? ⟨gb348, 4, none⟩ = some (.int .i64 a0_4) := (blk_cell BK348.out 4).trans rfl
          have hcz17_5 : wr.cell? ⟨gb348, 5, none⟩ = some (.int .i64 a0_5) := (blk_cell BK348.out 5).trans rfl
          have hcz17_6 : wr.cell? ⟨gb348, 6, none⟩ = some (.int .i64 a0_6) := (blk_cell BK348.out 6).trans rfl
          have hcz17_7 : wr.cell? ⟨gb348, 7, none⟩ = some (.int .i64 a0_7) := (blk_cell BK348.out 7).trans rfl
          have hcz17_8 : wr.cell? ⟨gb348, 8, none⟩ = some (.int .i64 a0_8) := (blk_cell BK348.out 8).trans rfl
          have hcz17_9 : wr.cell? ⟨gb348, 9, none⟩ = some (.int .i64 a0_9) := (blk_cell BK348.out 9).trans rfl
          have hfz17_0 := blk_frozen BK348.out 0
          have hfz17_1 := blk_frozen BK348.out 1
          have hfz17_2 := blk_frozen BK348.out 2
          have hfz17_3 := blk_frozen BK348.out 3
          have hfz17_4 := blk_frozen BK348.out 4
          have hfz17_5 := blk_frozen BK348.out 5
          have hfz17_6 := blk_frozen BK348.out 6
          have hfz17_7 := blk_frozen BK348.out 7
          have hfz17_8 := blk_frozen BK348.out 8
          have hfz17_9 := blk_frozen BK348.out 9
          have hcv18 := own_string (P := Try.prog) Try.underlying72 Try.underlying5 Try.underlying9 (Kd.own_of_R HO_7.out)
          go_wp2
          go_ret
          exact ⟨by first | rfl | (simp [errW_none, errW_some] <;> rfl) | (simp [*, errW_none, errW_some] <;> rfl), by repeat (first | (with_reducible first | exact HB.out | apply below_alloc | apply pw_below_drewN | apply below_drew1 | refine below_set ?_ GE348.out) | exact HB.out)⟩

/-! ### format_Put: function 24 -/
def format_Put.f (k : Nat) (a0_0 : Int) (a0_1 : Int) (a0_2 : Bool) (a0_3 : Bool) (a0_4 : Int) (a0_5 : Int) (a0_6 : Int) (a0_7 : Int) (a0_8 : Int) (a0_9 : Int) (a1 : Int) : Option (ByteArray) := (format_Size.f a0_0 a0_1 a0_2 a0_3 a0_4 a0_5 a0_6 a0_7 a0_8 a0_9).bind fun t354 => ((format_put.f k a0_0 a0_1 a0_2 a0_3 a0_4 a0_5 a0_6 a0_7 a0_8 a0_9 t354 a1).bind fun t355 => (some t355))
theorem format_Put.mono : ∀ a0 a1 a2 a3 a4 a5 a6 a7 a8 a9 a10 k, LeO (format_Put.f k a0 a1 a2 a3 a4 a5 a6 a7 a8 a9 a10) (format_Put.f (k + 1) a0 a1 a2 a3 a4 a5 a6 a7 a8 a9 a10) := by
  intro a0 a1 a2 a3 a4 a5 a6 a7 a8 a9 a10 k
  unfold format_Put.f
  repeat' first
      | (with_reducible exact format_put.mono _ _ _ _ _ _ _ _ _ _ _ _ _)
      | (with_reducible exact LeO.refl _)
      | (with_reducible exact LeO.none _)
      | (with_reducible refine LeO.ite ?_ ?_)
      | (with_reducible refine LeO.bind ?_ (fun _ => ?_))
      | exact format_put.mono _ _ _ _ _ _ _ _ _ _ _ _ _
      | exact LeO.none _
      | refine LeO.ite ?_ ?_
      | refine LeO.bind ?_ (fun _ => ?_)
set_option maxHeartbeats 8000000 in
set_option maxRecDepth 100000 in
theorem format_Put.calls (k : Nat) (a0_0 : Int) (a0_1 : Int) (a0_2 : Bool) (a0_3 : Bool) (a0_4 : Int) (a0_5 : Int) (a0_6 : Int) (a0_7 : Int) (a0_8 : Int) (a0_9 : Int) (a1 : Int) (r : ByteArray) (w : World) (h : format_Put.f k a0_0 a0_1 a0_2 a0_3 a0_4 a0_5 a0_6 a0_7 a0_8 a0_9 a1 = some r) :
    Calls Try.prog 24 #[.agg #[.int .i64 a0_0, .int .i64 a0_1, .bool a0_2, .bool a0_3, .int .i64 a0_4, .int .i64 a0_5, .int .i64 a0_6, .int .i64 a0_7, .int .i64 a0_8, .int .i64 a0_9], .int .i64 a1] w fun e w' => e = .returned (.string r) ∧ Below w.heap.size w w' := by
  have hu23 := Try.underlying23
  have HB := Aside0.mk (Below.refl w.heap.size w)
  have H : ((format_Size.f a0_0 a0_1 a0_2 a0_3 a0_4 a0_5 a0_6 a0_7 a0_8 a0_9).bind fun t354 => ((format_put.f k a0_0 a0_1 a0_2 a0_3 a0_4 a0_5 a0_6 a0_7 a0_8 a0_9 t354 a1).bind fun t355 => (some t355))) = some r := h
  clear h
  replace H := Option.bind_eq_some_iff.mp H
  obtain ⟨t354, A30, H⟩ := H
  replace H : ((format_put.f k a0_0 a0_1 a0_2 a0_3 a0_4 a0_5 a0_6 a0_7 a0_8 a0_9 t354 a1).bind fun t355 => (some t355)) = some r := H
  have A3 := Aside0.mk A30
  clear A30
  replace H := Option.bind_eq_some_iff.mp H
  obtain ⟨t355, A40, H⟩ := H
  replace H : (some t355) = some r := H
  have A4 := Aside0.mk A40
  clear A40
  obtain rfl := Option.some.inj H
  go_enter Try.func24, Try.ntmps24
  try go_wp2_with (first | ((with_reducible refine gate_dst (N := 2) rfl ?_); refine box_event ?hg (N := 2) ?hd (cs := #[.int .i64 a0_0, .int .i64 a0_1, .bool a0_2, .bool a0_3, .int .i64 a0_4, .int .i64 a0_5, .int .i64 a0_6, .int .i64 a0_7, .int .i64 a0_8, .int .i64 a0_9]) (t := 23) ?hr ?_; (case hd => rfl); (case hg => rfl); (case hr => first | (go_simp; done) | (go_simp; rfl)); intro gb353 hg w5 hbox hb; have n0_ := Aside0.mk (below_step (by repeat (first | (with_reducible first | exact HB.out | apply below_alloc | apply pw_below_drewN | apply below_drew1) | exact HB.out)) hb); have n1_ := Aside0.mk (hbox); have n2_ := Aside0.mk ((by rw [hg]; exact (below_size (by repeat (first | (with_reducible first | exact HB.out | apply below_alloc | apply pw_below_drewN | apply below_drew1) | exact HB.out))) : w.heap.size ≤ gb353)); have n3_ := Aside0.mk ((by rw [hg]; exact (below_size (by repeat (first | (with_reducible first | exact HB.out | apply below_alloc | apply pw_below_drewN | apply below_drew1) | exact HB.out))) : w.heap.size ≤ gb353)); clear HB; have HB := n0_; have BK353 := n1_; have GW353 := n2_; have GE353 := n3_; clear n0_ n1_ n2_ n3_; clear hb hbox hg))
  have n0_ := Aside0.mk (blk_drew BK353.out)
  have n1_ := Aside0.mk (below_drew1 HB.out)
  clear BK353
  clear HB
  have BK353 := n0_
  have HB := n1_
  clear n0_ n1_
  refine start_ (n := 6) (S := fun w' => w'.cell? ⟨gb353, 0, none⟩ = some (.int .i64 a0_0) ∧ w'.cell? ⟨gb353, 1, none⟩ = some (.int .i64 a0_1) ∧ w'.cell? ⟨gb353, 2, none⟩ = some (.bool a0_2) ∧ w'.cell? ⟨gb353, 3, none⟩ = some (.bool a0_3) ∧ w'.cell? ⟨gb353, 4, none⟩ = some (.int .i64 a0_4) ∧ w'.cell? ⟨gb353, 5, none⟩ = some (.int .i64 a0_5) ∧ w'.cell? ⟨gb353, 6, none⟩ = some (.int .i64 a0_6) ∧ w'.cell? ⟨gb353, 7, none⟩ = some (.int .i64 a0_7) ∧ w'.cell? ⟨gb353, 8, none⟩ = some (.int .i64 a0_8) ∧ w'.cell? ⟨gb353, 9, none⟩ = some (.int .i64 a0_9)) (ds := []) #[false, false, false, false, false, false] (by kernel_rfl) rfl rfl ⟨(blk_cell BK353.out 0).trans rfl, (blk_cell BK353.out 1).trans rfl, (blk_cell BK353.out 2).trans rfl, (blk_cell BK353.out 3).trans rfl, (blk_cell BK353.out 4).trans rfl, (blk_cell BK353.out 5).trans rfl, (blk_cell BK353.out 6).trans rfl, (blk_cell BK353.out 7).trans rfl, (blk_cell BK353.out 8).trans rfl, (blk_cell BK353.out 9).trans rfl⟩ (fun hHeld => ?_)
  generalize w5.drew = w6 at BK353 HB hHeld ⊢
  refine pure_ (i := 3) (N := some 8) (v := ?_) (a' := ?_) #[false, false, false, true, false, false] rfl rfl (by kernel_rfl) (fun _ _ _ h => h) (Or.inl ⟨by rfl, ?_⟩) ?_ ?_
  rotate_left
  · intro w'
    go_simp
    with_reducible rfl
  rotate_left
  · simp only [Act.put, List.setIfInBounds_toArray, List.set_cons_zero, List.set_cons_succ, i64_w, i32_w]
    rfl
  refine take_ (i := 0) (N := some 5) (v := ?_) (a' := ?_) #[true, false, false, true, false, false] rfl rfl (by kernel_rfl) (fun _ _ _ h => h) (Or.inl ⟨by rfl, ?_⟩) hHeld ?_ ?_
  rotate_left
  · rintro w' ⟨s0, s1, s2, s3, s4, s5, s6, s7, s8, s9⟩
    go_simp
    with_reducible rfl
  rotate_left
  · simp only [Act.put, List.setIfInBounds_toArray, List.set_cons_zero, List.set_cons_succ, i64_w, i32_w]
    rfl
  refine take_ (i := 1) (N := some 6) (v := ?_) (a' := ?_) #[true, true, false, true, false, false] rfl rfl (by kernel_rfl) (fun _ _ _ h => h) (Or.inl ⟨by rfl, ?_⟩) hHeld ?_ ?_
  rotate_left
  · rintro w' ⟨s0, s1, s2, s3, s4, s5, s6, s7, s8, s9⟩
    go_simp
    with_reducible rfl
  rotate_left
  · simp only [Act.put, List.setIfInBounds_toArray, List.set_cons_zero, List.set_cons_succ, i64_w, i32_w]
    rfl
  refine one_ (i := 2) (N := some 7) #[true, true, true, true, false, false] rfl rfl (by kernel_rfl) (by decide) (fun K hK => ?_)
  refine goes_ Try.func20 (by kernel_rfl) rfl #[.agg #[.int .i64 a0_0, .int .i64 a0_1, .bool a0_2, .bool a0_3, .int .i64 a0_4, .int .i64 a0_5, .int .i64 a0_6, .int .i64 a0_7, .int .i64 a0_8, .int .i64 a0_9]] (by rfl) rfl rfl (by (try simp only [List.map_toArray, List.map_cons, List.map_nil]); first | done | rfl | (simp only [List.length_drop, List.length_take]; rfl)) ?_
  with_reducible refine (format_Size.calls a0_0 a0_1 a0_2 a0_3 a0_4 a0_5 a0_6 a0_7 a0_8 a0_9 t354 _ A3.out).mono ?_
  rintro e w7 ⟨rfl, hb⟩
  refine ⟨_, rfl, ?_⟩
  have n0_ := Aside0.mk (blk_below (g := gb353) (o := .cells #[.int .i64 a0_0, .int .i64 a0_1, .bool a0_2, .bool a0_3, .int .i64 a0_4, .int .i64 a0_5, .int .i64 a0_6, .int .i64 a0_7, .int .i64 a0_8, .int .i64 a0_9] 23 (0, 0)) (by (with_reducible repeat (first | refine blk_drewN ?_ _ | refine blk_drew ?_ | refine blk_alloc ?_ _)); exact BK353.out) hb)
  have n1_ := Aside0.mk (below_step (by repeat (first | (with_reducible first | exact HB.out | apply below_alloc | apply pw_below_drewN | apply below_drew1 | refine below_set ?_ GE353.out) | exact HB.out)) hb)
  clear BK353
  clear HB
  have BK353 := n0_
  have HB := n1_
  clear n0_ n1_
  (try clear hb)
  (try clear hb2)
  (try clear hk)
  (try clear hi)
  refine hK.out _ _ ⟨(blk_cell BK353.out 0).trans rfl, (blk_cell BK353.out 1).trans rfl, (blk_cell BK353.out 2).trans rfl, (blk_cell BK353.out 3).trans rfl, (blk_cell BK353.out 4).trans rfl, (blk_cell BK353.out 5).trans rfl, (blk_cell BK353.out 6).trans rfl, (blk_cell BK353.out 7).trans rfl, (blk_cell BK353.out 8).trans rfl, (blk_cell BK353.out 9).trans rfl⟩ (fun hHeld => ?_)
  clear hK K
  refine norm_ (a' := ?_) ?_ ?_
  rotate_left
  · show Act.put _ (some 7) _ = _
    simp only [Act.put, List.setIfInBounds_toArray, List.set_cons_zero, List.set_cons_succ, i64_w, i32_w]
    rfl
  refine one_ (i := 4) (N := some 9) #[true, true, true, true, true, false] rfl rfl (by kernel_rfl) (by decide) (fun K hK => ?_)
  refine goes_ Try.func47 (by kernel_rfl) rfl #[.agg #[.int .i64 a0_0, .int .i64 a0_1, .bool a0_2, .bool a0_3, .int .i64 a0_4, .int .i64 a0_5, .int .i64 a0_6, .int .i64 a0_7, .int .i64 a0_8, .int .i64 a0_9], .int .i64 t354, .int .i64 a1] (by rfl) rfl rfl (by (try simp only [List.map_toArray, List.map_cons, List.map_nil]); first | done | rfl | (simp only [List.length_drop, List.length_take]; rfl)) ?_
  with_reducible refine (format_put.calls k a0_0 a0_1 a0_2 a0_3 a0_4 a0_5 a0_6 a0_7 a0_8 a0_9 t354 a1 t355 _ A4.out).mono ?_
  rintro e w8 ⟨rfl, hb⟩
  refine ⟨_, rfl, ?_⟩
  have n0_ := Aside0.mk (blk_below (g := gb353) (o := .cells #[.int .i64 a0_0, .int .i64 a0_1, .bool a0_2, .bool a0_3, .int .i64 a0_4, .int .i64 a0_5, .int .i64 a0_6, .int .i64 a0_7, .int .i64 a0_8, .int .i64 a0_9] 23 (0, 0)) (by (with_reducible repeat (first | refine blk_drewN ?_ _ | refine blk_drew ?_ | refine blk_alloc ?_ _)); exact BK353.out) hb)
  have n1_ := Aside0.mk (below_step (by repeat (first | (with_reducible first | exact HB.out | apply below_alloc | apply pw_below_drewN | apply below_drew1 | refine below_set ?_ GE353.out) | exact HB.out)) hb)
  clear BK353
  clear HB
  have BK353 := n0_
  have HB := n1_
  clear n0_ n1_
  (try clear hb)
  (try clear hb2)
  (try clear hk)
  (try clear hi)
  refine hK.out _ _ ⟨(blk_cell BK353.out 0).trans rfl, (blk_cell BK353.out 1).trans rfl, (blk_cell BK353.out 2).trans rfl, (blk_cell BK353.out 3).trans rfl, (blk_cell BK353.out 4).trans rfl, (blk_cell BK353.out 5).trans rfl, (blk_cell BK353.out 6).trans rfl, (blk_cell BK353.out 7).trans rfl, (blk_cell BK353.out 8).trans rfl, (blk_cell BK353.out 9).trans rfl⟩ (fun hHeld => ?_)
  clear hK K
  refine norm_ (a' := ?_) ?_ ?_
  rotate_left
  · show Act.put _ (some 9) _ = _
    simp only [Act.put, List.setIfInBounds_toArray, List.set_cons_zero, List.set_cons_succ, i64_w, i32_w]
    rfl
  refine pure_ (i := 5) (N := some 4) (v := ?_) (a' := ?_) #[true, true, true, true, true, true] rfl rfl (by kernel_rfl) (fun _ _ _ h => h) (Or.inl ⟨by rfl, ?_⟩) ?_ ?_
  rotate_left
  · intro w'
    go_simp
    with_reducible rfl
  rotate_left
  · simp only [Act.put, List.setIfInBounds_toArray, List.set_cons_zero, List.set_cons_succ, i64_w, i32_w]
    rfl
  refine done_ (by kernel_rfl) ?_
  try go_wp2
  go_ret
  exact ⟨by first | rfl | (simp [errW_none, errW_some] <;> rfl) | (simp [*, errW_none, errW_some] <;> rfl), by repeat (first | (with_reducible first | exact HB.out | apply below_alloc | apply pw_below_drewN | apply below_drew1 | refine below_set ?_ GE353.out) | exact HB.out)⟩

/-! ### format_Compact: function 29 -/
/-- All bits of the parts l. -/
def format_aF : List (Int × Int) → Int → Option Int
  | [], v => some v
  | (m, s) :: l, v => (format_part_mask.f m s).bind fun q => format_aF l (Go.bits .or .i64 v q)
def format_compactF (n d all : Int) (sz : Option Int) : Option (Int × Int) :=
  if n < 32 then sz.bind (fun t => some (t, 0)) else if d > 24 then sz.bind (fun t => some (t, 0)) else if all < 16777216 then some (3, 0) else if Go.bits .and .i64 all 255 = 0 then some (3, 8) else sz.bind (fun t => some (t, 0))
def format_Compact.f (a0_0 : Int) (a0_1 : Int) (a0_2 : Bool) (a0_3 : Bool) (a0_4 : Int) (a0_5 : Int) (a0_6 : Int) (a0_7 : Int) (a0_8 : Int) (a0_9 : Int) : Option (Int × Int) :=
  (format_Valid.f a0_0 a0_1 a0_2 a0_3 a0_4 a0_5 a0_6 a0_7 a0_8 a0_9).bind fun b => if b = true then (format_aF [(a0_4, a0_7), (a0_5, a0_8), (a0_6, a0_9)] 0).bind fun all => format_compactF a0_0 a0_1 all (format_Size.f a0_0 a0_1 a0_2 a0_3 a0_4 a0_5 a0_6 a0_7 a0_8 a0_9) else some (0, 0)
set_option maxHeartbeats 2000000 in
set_option maxRecDepth 100000 in
theorem format_Compact.calls (a0_0 : Int) (a0_1 : Int) (a0_2 : Bool) (a0_3 : Bool) (a0_4 : Int) (a0_5 : Int) (a0_6 : Int) (a0_7 : Int) (a0_8 : Int) (a0_9 : Int) (r1 : Int) (r2 : Int) (w : World) (h : format_Compact.f a0_0 a0_1 a0_2 a0_3 a0_4 a0_5 a0_6 a0_7 a0_8 a0_9 = some (r1, r2)) :
    Calls Try.prog 29 #[.agg #[.int .i64 a0_0, .int .i64 a0_1, .bool a0_2, .bool a0_3, .int .i64 a0_4, .int .i64 a0_5, .int .i64 a0_6, .int .i64 a0_7, .int .i64 a0_8, .int .i64 a0_9]] w fun e w' => e = .returned (.tuple #[.int .i64 r1, .int .i64 r2]) ∧ Below w.heap.size w w' := by
  unfold format_Compact.f at h
  cases hv : format_Valid.f a0_0 a0_1 a0_2 a0_3 a0_4 a0_5 a0_6 a0_7 a0_8 a0_9 with
  | none => rw [hv] at h; cases h
  | some b =>
    rw [hv] at h
    simp only [Option.bind_some] at h
    have HV := Lib.hid hv
    have HW := Lib.hid (below_alloc (Below.refl w.heap.size w) (.cells #[.int .i64 a0_0, .int .i64 a0_1, .bool a0_2, .bool a0_3, .int .i64 a0_4, .int .i64 a0_5, .int .i64 a0_6, .int .i64 a0_7, .int .i64 a0_8, .int .i64 a0_9] 23))
    have HG := Lib.hid (heap_alloc_new w (.cells #[.int .i64 a0_0, .int .i64 a0_1, .bool a0_2, .bool a0_3, .int .i64 a0_4, .int .i64 a0_5, .int .i64 a0_6, .int .i64 a0_7, .int .i64 a0_8, .int .i64 a0_9] 23))
    clear hv
    cases b with
    | false =>
      rw [if_neg (by decide)] at h
      obtain ⟨rfl, rfl⟩ := Prod.mk.inj (Option.some.inj h)
      clear h
      go_enter Try.func29, Try.ntmps29
      go_wp2_with fail
      refine (format_Valid.calls _ _ _ _ _ _ _ _ _ _ false _ HV.out).mono ?_
      rintro e w1 ⟨rfl, hb⟩
      have HB := Lib.hid (HW.out.trans (Below.mono hb (by simp)))
      clear hb
      go_wp2_with fail
      go_ret2
      exact ⟨rfl, HB.out⟩
    | true =>
      rw [if_pos rfl] at h
      cases ha : format_aF [(a0_4, a0_7), (a0_5, a0_8), (a0_6, a0_9)] 0 with
      | none => rw [ha] at h; cases h
      | some all =>
      rw [ha] at h
      simp only [Option.bind_some] at h
      have H := Lib.hid (show format_aF (format_rest a0_4 a0_5 a0_6 a0_7 a0_8 a0_9 0) 0 = some all from ha)
      have HC := Lib.hid h
      clear h ha
      go_enter Try.func29, Try.ntmps29
      go_wp2_with fail
      refine (format_Valid.calls _ _ _ _ _ _ _ _ _ _ true _ HV.out).mono ?_
      rintro e w1 ⟨rfl, hb⟩
      have HB := Lib.hid (HW.out.trans (Below.mono hb (by simp)))
      have hg := (hb.block w.heap.size (by simp)).trans HG.out
      have HG1 := Lib.hid hg
      have q0 : w1.cell? ⟨w.heap.size, 0, none⟩ = some (.int .i64 a0_0) := by rw [World.cell?, hg]; rfl
      have q1 : w1.cell? ⟨w.heap.size, 1, none⟩ = some (.int .i64 a0_1) := by rw [World.cell?, hg]; rfl
      have q2 : w1.cell? ⟨w.heap.size, 2, none⟩ = some (.bool a0_2) := by rw [World.cell?, hg]; rfl
      have q3 : w1.cell? ⟨w.heap.size, 3, none⟩ = some (.bool a0_3) := by rw [World.cell?, hg]; rfl
      have q4 : w1.cell? ⟨w.heap.size, 4, none⟩ = some (.int .i64 a0_4) := by rw [World.cell?, hg]; rfl
      have q5 : w1.cell? ⟨w.heap.size, 5, none⟩ = some (.int .i64 a0_5) := by rw [World.cell?, hg]; rfl
      have q6 : w1.cell? ⟨w.heap.size, 6, none⟩ = some (.int .i64 a0_6) := by rw [World.cell?, hg]; rfl
      have q7 : w1.cell? ⟨w.heap.size, 7, none⟩ = some (.int .i64 a0_7) := by rw [World.cell?, hg]; rfl
      have q8 : w1.cell? ⟨w.heap.size, 8, none⟩ = some (.int .i64 a0_8) := by rw [World.cell?, hg]; rfl
      have q9 : w1.cell? ⟨w.heap.size, 9, none⟩ = some (.int .i64 a0_9) := by rw [World.cell?, hg]; rfl
      clear hb hg
      go_wp2_with fail
      refine (format_parts_c _ _ _ _ _ _ _ _ _ _ _).mono ?_
      rintro e w2 ⟨rfl, hb⟩
      have HB2 := Lib.hid (HB.out.trans (Below.mono hb HB.out.size))
      have HG2 := Lib.hid ((hb.block w.heap.size (blk_lt HG1.out)).trans HG1.out)
      clear hb q0 q1 q2 q3 q4 q5 q6 q7 q8 q9
      go_wp2_with fail
      go_loopw [4, 12] (fun v i wr => ∃ (k : Nat) (x : Int), k ≤ 3 ∧ i = .int .i64 k ∧ v = .int .i64 x ∧ Hid (format_aF (format_rest a0_4 a0_5 a0_6 a0_7 a0_8 a0_9 k) x = some all) ∧ Hid (wr.heap[w.heap.size]? = some (.cells #[.int .i64 a0_0, .int .i64 a0_1, .bool a0_2, .bool a0_3, .int .i64 a0_4, .int .i64 a0_5, .int .i64 a0_6, .int .i64 a0_7, .int .i64 a0_8, .int .i64 a0_9] 23 (0, 0))) ∧ Hid (Below w.heap.size w wr)) (fun _ i _ => 3 - (intOf i).toNat)
      case atStart => exact ⟨0, 0, by omega, rfl, rfl, H, HG2, HB2⟩
      case round =>
        obtain ⟨k, x, hk, rfl, rfl, HO, HX, HY⟩ := hrel
        by_cases hk3 : k < 3
        · have hix := fun wx => format_index a0_4 a0_5 a0_6 a0_7 a0_8 a0_9 k hk3 wx
          have hlt : w.heap.size < wr.heap.size := blk_lt HX.out
          have ho := HO.out
          rw [format_rest_at _ _ _ _ _ _ k hk3] at ho
          obtain ⟨m, hm⟩ : ∃ m, (format_pm a0_4 a0_5 a0_6 a0_7 a0_8 a0_9 k).1 = m := ⟨_, rfl⟩
          obtain ⟨s, hs⟩ : ∃ s, (format_pm a0_4 a0_5 a0_6 a0_7 a0_8 a0_9 k).2 = s := ⟨_, rfl⟩
          simp only [hm, hs] at hix
          rw [hm, hs] at ho
          clear hm hs HO
          unfold format_aF at ho
          cases hq : format_part_mask.f m s with
          | none => rw [hq] at ho; cases ho
          | some q =>
          rw [hq] at ho
          have HN := Lib.hid (show format_aF (format_rest a0_4 a0_5 a0_6 a0_7 a0_8 a0_9 (k + 1)) (Go.bits .or .i64 x q) = some all from ho)
          have HQ := Lib.hid hq
          clear ho hq
          go_wp2_with fail
          refine (format_part_mask.calls m s q _ HQ.out).mono ?_
          rintro e w4 ⟨rfl, hb⟩
          have HB4 := Lib.hid ((below_alloc (Below.refl wr.heap.size wr) (.cells #[.int .i64 m, .int .i64 s] 50)).trans (Below.mono hb (by simp)))
          clear hb hix
          go_wp2_with fail
          go_roundw
          case rel => exact ⟨k + 1, _, by omega, by go_num, rfl, HN, Lib.hid ((HB4.out.block _ hlt).trans HX.out), Lib.hid (HY.out.trans (Below.mono HB4.out HY.out.size))⟩
          case measure => simp [intOf]; omega
        · obtain rfl : k = 3 := by omega
          have ho := HO.out
          obtain rfl : x = all := Option.some.inj ho
          have hg := HX.out
          have q0 : wr.cell? ⟨w.heap.size, 0, none⟩ = some (.int .i64 a0_0) := by rw [World.cell?, hg]; rfl
          have q1 : wr.cell? ⟨w.heap.size, 1, none⟩ = some (.int .i64 a0_1) := by rw [World.cell?, hg]; rfl
          have q2 : wr.cell? ⟨w.heap.size, 2, none⟩ = some (.bool a0_2) := by rw [World.cell?, hg]; rfl
          have q3 : wr.cell? ⟨w.heap.size, 3, none⟩ = some (.bool a0_3) := by rw [World.cell?, hg]; rfl
          have q4 : wr.cell? ⟨w.heap.size, 4, none⟩ = some (.int .i64 a0_4) := by rw [World.cell?, hg]; rfl
          have q5 : wr.cell? ⟨w.heap.size, 5, none⟩ = some (.int .i64 a0_5) := by rw [World.cell?, hg]; rfl
          have q6 : wr.cell? ⟨w.heap.size, 6, none⟩ = some (.int .i64 a0_6) := by rw [World.cell?, hg]; rfl
          have q7 : wr.cell? ⟨w.heap.size, 7, none⟩ = some (.int .i64 a0_7) := by rw [World.cell?, hg]; rfl
          have q8 : wr.cell? ⟨w.heap.size, 8, none⟩ = some (.int .i64 a0_8) := by rw [World.cell?, hg]; rfl
          have q9 : wr.cell? ⟨w.heap.size, 9, none⟩ = some (.int .i64 a0_9) := by rw [World.cell?, hg]; rfl
          have hc := HC.out
          unfold format_compactF at hc
          clear ho HO hg
          have hsize : ∀ t, format_Size.f a0_0 a0_1 a0_2 a0_3 a0_4 a0_5 a0_6 a0_7 a0_8 a0_9 = some t → Hid (format_Size.f a0_0 a0_1 a0_2 a0_3 a0_4 a0_5 a0_6 a0_7 a0_8 a0_9 = some t) := fun t h => Lib.hid h
          by_cases c1 : a0_0 < 32
          · rw [if_pos c1] at hc
            cases hz : format_Size.f a0_0 a0_1 a0_2 a0_3 a0_4 a0_5 a0_6 a0_7 a0_8 a0_9 with
            | none => rw [hz] at hc; cases hc
            | some t =>
            rw [hz] at hc
            obtain ⟨rfl, rfl⟩ := Prod.mk.inj (Option.some.inj hc)
            have HZ := Lib.hid hz
            clear hz hc hsize
            go_wp2_with fail
            refine (format_Size.calls _ _ _ _ _ _ _ _ _ _ _ _ HZ.out).mono ?_
            rintro e w5 ⟨rfl, hb⟩
            have HB5 := Lib.hid (HY.out.trans (Below.mono hb HY.out.size))
            clear hb
            go_wp2_with fail
            go_ret2
            exact ⟨rfl, HB5.out⟩
          · rw [if_neg c1] at hc
            by_cases c2 : a0_1 > 24
            · rw [if_pos c2] at hc
              cases hz : format_Size.f a0_0 a0_1 a0_2 a0_3 a0_4 a0_5 a0_6 a0_7 a0_8 a0_9 with
              | none => rw [hz] at hc; cases hc
              | some t =>
              rw [hz] at hc
              obtain ⟨rfl, rfl⟩ := Prod.mk.inj (Option.some.inj hc)
              have HZ := Lib.hid hz
              clear hz hc hsize
              go_wp2_with fail
              refine (format_Size.calls _ _ _ _ _ _ _ _ _ _ _ _ HZ.out).mono ?_
              rintro e w5 ⟨rfl, hb⟩
              have HB5 := Lib.hid (HY.out.trans (Below.mono hb HY.out.size))
              clear hb
              go_wp2_with fail
              go_ret2
              exact ⟨rfl, HB5.out⟩
            · rw [if_neg c2] at hc
              by_cases c3 : x < 16777216
              · rw [if_pos c3] at hc
                obtain ⟨rfl, rfl⟩ := Prod.mk.inj (Option.some.inj hc)
                clear hc hsize
                go_wp2_with fail
                go_ret2
                exact ⟨rfl, HY.out⟩
              · rw [if_neg c3] at hc
                by_cases c4 : Go.bits .and .i64 x 255 = 0
                · rw [if_pos c4] at hc
                  obtain ⟨rfl, rfl⟩ := Prod.mk.inj (Option.some.inj hc)
                  have b4 : (Go.bits .and .i64 x 255 == 0) = true := by simpa using c4
                  clear hc hsize c4
                  go_wp2_with fail
                  go_ret2
                  exact ⟨rfl, HY.out⟩
                · rw [if_neg c4] at hc
                  have b4 : (Go.bits .and .i64 x 255 == 0) = false := by simpa using c4
                  cases hz : format_Size.f a0_0 a0_1 a0_2 a0_3 a0_4 a0_5 a0_6 a0_7 a0_8 a0_9 with
                  | none => rw [hz] at hc; cases hc
                  | some t =>
                  rw [hz] at hc
                  obtain ⟨rfl, rfl⟩ := Prod.mk.inj (Option.some.inj hc)
                  have HZ := Lib.hid hz
                  clear hz hc c4 hsize
                  go_wp2_with fail
                  refine (format_Size.calls _ _ _ _ _ _ _ _ _ _ _ _ HZ.out).mono ?_
                  rintro e w5 ⟨rfl, hb⟩
                  have HB5 := Lib.hid (HY.out.trans (Below.mono hb HY.out.size))
                  clear hb
                  go_wp2_with fail
                  go_ret2
                  exact ⟨rfl, HB5.out⟩

/-! ### format_CPut: function 25 -/
def format_CPut.f (k : Nat) (a0_0 : Int) (a0_1 : Int) (a0_2 : Bool) (a0_3 : Bool) (a0_4 : Int) (a0_5 : Int) (a0_6 : Int) (a0_7 : Int) (a0_8 : Int) (a0_9 : Int) (a1 : Int) : Option (ByteArray) := (format_Compact.f a0_0 a0_1 a0_2 a0_3 a0_4 a0_5 a0_6 a0_7 a0_8 a0_9).bind fun bt357 => ((format_Size.f a0_0 a0_1 a0_2 a0_3 a0_4 a0_5 a0_6 a0_7 a0_8 a0_9).bind fun t359 => (if 0 ≤ (wrap64 (8 * t359)) then (if 0 ≤ bt357.2 then ((format_put.f k a0_0 a0_1 a0_2 a0_3 a0_4 a0_5 a0_6 a0_7 a0_8 a0_9 bt357.1 (shr .i64 (Go.bits .and .i64 a1 (wrap64 ((shl .i64 1 (wrap64 (8 * t359))) - 1))) bt357.2)).bind fun t360 => (some t360)) else (none)) else (none)))
theorem format_CPut.mono : ∀ a0 a1 a2 a3 a4 a5 a6 a7 a8 a9 a10 k, LeO (format_CPut.f k a0 a1 a2 a3 a4 a5 a6 a7 a8 a9 a10) (format_CPut.f (k + 1) a0 a1 a2 a3 a4 a5 a6 a7 a8 a9 a10) := by
  intro a0 a1 a2 a3 a4 a5 a6 a7 a8 a9 a10 k
  unfold format_CPut.f
  repeat' first
      | (with_reducible exact format_put.mono _ _ _ _ _ _ _ _ _ _ _ _ _)
      | (with_reducible exact LeO.refl _)
      | (with_reducible exact LeO.none _)
      | (with_reducible refine LeO.ite ?_ ?_)
      | (with_reducible refine LeO.bind ?_ (fun _ => ?_))
      | exact format_put.mono _ _ _ _ _ _ _ _ _ _ _ _ _
      | exact LeO.none _
      | refine LeO.ite ?_ ?_
      | refine LeO.bind ?_ (fun _ => ?_)
def format_CPut.T2 : Bool × List (List Nat × List Nat) := (true, [([], []), ([], []), ([], []), ([], []), ([3], [3]), ([4], [4]), ([5], [5]), ([6], [6]), ([2, 7], [2, 7]), ([], []), ([8, 9], [8, 9]), ([0, 1, 10, 4], [0, 1, 10]), ([11, 11, 0, 1, 2, 3, 4, 5, 6, 7, 8, 9, 10, 11], [11])])
def format_CPut.B2 : List Nat := [0, 0, 0, 0, 8, 24, 56, 120, 252, 0, 1020, 2047, 4095]
theorem format_CPut.tab2 : rtab .any (opsOf Try.f25 2) = format_CPut.T2 := by kernel_rfl
theorem format_CPut.bits2 : waitsOk format_CPut.T2.2 format_CPut.B2 = true := by kernel_rfl
set_option maxHeartbeats 8000000 in
set_option maxRecDepth 100000 in
theorem format_CPut.calls (k : Nat) (a0_0 : Int) (a0_1 : Int) (a0_2 : Bool) (a0_3 : Bool) (a0_4 : Int) (a0_5 : Int) (a0_6 : Int) (a0_7 : Int) (a0_8 : Int) (a0_9 : Int) (a1 : Int) (r : ByteArray) (w : World) (h : format_CPut.f k a0_0 a0_1 a0_2 a0_3 a0_4 a0_5 a0_6 a0_7 a0_8 a0_9 a1 = some r) :
    Calls Try.prog 25 #[.agg #[.int .i64 a0_0, .int .i64 a0_1, .bool a0_2, .bool a0_3, .int .i64 a0_4, .int .i64 a0_5, .int .i64 a0_6, .int .i64 a0_7, .int .i64 a0_8, .int .i64 a0_9], .int .i64 a1] w fun e w' => e = .returned (.string r) ∧ Below w.heap.size w w' := by
  have hu23 := Try.underlying23
  have HB := Aside0.mk (Below.refl w.heap.size w)
  have H : ((format_Compact.f a0_0 a0_1 a0_2 a0_3 a0_4 a0_5 a0_6 a0_7 a0_8 a0_9).bind fun bt357 => ((format_Size.f a0_0 a0_1 a0_2 a0_3 a0_4 a0_5 a0_6 a0_7 a0_8 a0_9).bind fun t359 => (if 0 ≤ (wrap64 (8 * t359)) then (if 0 ≤ bt357.2 then ((format_put.f k a0_0 a0_1 a0_2 a0_3 a0_4 a0_5 a0_6 a0_7 a0_8 a0_9 bt357.1 (shr .i64 (Go.bits .and .i64 a1 (wrap64 ((shl .i64 1 (wrap64 (8 * t359))) - 1))) bt357.2)).bind fun t360 => (some t360)) else (none)) else (none)))) = some r := h
  clear h
  replace H := Option.bind_eq_some_iff.mp H
  obtain ⟨⟨t357, t358⟩, A30, H⟩ := H
  replace H : ((format_Size.f a0_0 a0_1 a0_2 a0_3 a0_4 a0_5 a0_6 a0_7 a0_8 a0_9).bind fun t359 => (if 0 ≤ (wrap64 (8 * t359)) then (if 0 ≤ t358 then ((format_put.f k a0_0 a0_1 a0_2 a0_3 a0_4 a0_5 a0_6 a0_7 a0_8 a0_9 t357 (shr .i64 (Go.bits .and .i64 a1 (wrap64 ((shl .i64 1 (wrap64 (8 * t359))) - 1))) t358)).bind fun t360 => (some t360)) else (none)) else (none))) = some r := H
  have A3 := Aside0.mk A30
  clear A30
  replace H := Option.bind_eq_some_iff.mp H
  obtain ⟨t359, A40, H⟩ := H
  replace H : (if 0 ≤ (wrap64 (8 * t359)) then (if 0 ≤ t358 then ((format_put.f k a0_0 a0_1 a0_2 a0_3 a0_4 a0_5 a0_6 a0_7 a0_8 a0_9 t357 (shr .i64 (Go.bits .and .i64 a1 (wrap64 ((shl .i64 1 (wrap64 (8 * t359))) - 1))) t358)).bind fun t360 => (some t360)) else (none)) else (none)) = some r := H
  have A4 := Aside0.mk A40
  clear A40
  obtain ⟨ji5, hji5⟩ : ∃ j_ : Int, (wrap64 (8 * t359)) = j_ := ⟨_, rfl⟩
  replace H : (if 0 ≤ (ji5) then (if 0 ≤ t358 then ((format_put.f k a0_0 a0_1 a0_2 a0_3 a0_4 a0_5 a0_6 a0_7 a0_8 a0_9 t357 (shr .i64 (Go.bits .and .i64 a1 (wrap64 ((shl .i64 1 (ji5)) - 1))) t358)).bind fun t360 => (some t360)) else (none)) else (none)) = some r := by first | (rw [hji5] at H; exact H) | (simp only [hji5] at H ⊢; exact H)
  (try rw [hji5] at A3)
  (try rw [hji5] at A4)
  have hji5w : (IntKind.i64.wrap (8 * t359)) = ji5 := (i64_w _).trans hji5
  by_cases c6 : 0 ≤ (ji5)
  · rw [if_pos c6] at H
    have c6b0 := eq_true c6
    have c6b1 : decide (0 ≤ (ji5)) = true := decide_eq_true c6
    clear c6
    obtain ⟨ji7, hji7⟩ : ∃ j_ : Int, (shl .i64 1 (ji5)) = j_ := ⟨_, rfl⟩
    replace H : (if 0 ≤ t358 then ((format_put.f k a0_0 a0_1 a0_2 a0_3 a0_4 a0_5 a0_6 a0_7 a0_8 a0_9 t357 (shr .i64 (Go.bits .and .i64 a1 (wrap64 ((ji7) - 1))) t358)).bind fun t360 => (some t360)) else (none)) = some r := by first | (rw [hji7] at H; exact H) | (simp only [hji7] at H ⊢; exact H)
    (try rw [hji7] at A3)
    (try rw [hji7] at A4)
    have hji7_ : (IntKind.i64.wrap (1 * 2 ^ min (ji5).toNat 64)) = ji7 := hji7
    have hji7z : (ji5) ≤ 64 → (IntKind.i64.wrap (1 * 2 ^ (ji5).toNat)) = ji7 := shl_small hji7
    have hji7u : (IntKind.i64.wrap (2 ^ min (ji5).toNat 64)) = ji7 := by have h_ := hji7_; rw [Int.one_mul] at h_; exact h_
    have hji7v : (ji5) ≤ 64 → (IntKind.i64.wrap (2 ^ (ji5).toNat)) = ji7 := fun hle_ => by have h_ := hji7z hle_; rw [Int.one_mul] at h_; exact h_
    have hji7y : (wrap64 (1 * 2 ^ min (ji5).toNat 64)) = ji7 := (i64_w _).symm.trans hji7_
    have hji7x : (ji5) ≤ 64 → (wrap64 (1 * 2 ^ (ji5).toNat)) = ji7 := fun h_ => (i64_w _).symm.trans (hji7z h_)
    by_cases c8 : 0 ≤ t358
    · rw [if_pos c8] at H
      have c8b0 := eq_true c8
      have c8b1 : decide (0 ≤ t358) = true := decide_eq_true c8
      clear c8
      obtain ⟨ji9, hji9⟩ : ∃ j_ : Int, (shr .i64 (Go.bits .and .i64 a1 (wrap64 ((ji7) - 1))) t358) = j_ := ⟨_, rfl⟩
      replace H : ((format_put.f k a0_0 a0_1 a0_2 a0_3 a0_4 a0_5 a0_6 a0_7 a0_8 a0_9 t357 (ji9)).bind fun t360 => (some t360)) = some r := by first | (rw [hji9] at H; exact H) | (simp only [hji9] at H ⊢; exact H)
      (try rw [hji9] at A3)
      (try rw [hji9] at A4)
      have hji9_ : ((Go.bits .and .i64 a1 (wrap64 ((ji7) - 1))) / 2 ^ min t358.toNat 64) = ji9 := hji9
      have hji9z : t358 ≤ 64 → ((Go.bits .and .i64 a1 (wrap64 ((ji7) - 1))) / 2 ^ t358.toNat) = ji9 := shr_small hji9
      replace H := Option.bind_eq_some_iff.mp H
      obtain ⟨t360, A100, H⟩ := H
      replace H : (some t360) = some r := H
      have A10 := Aside0.mk A100
      clear A100
      obtain rfl := Option.some.inj H
      go_enter Try.func25, Try.ntmps25
      try go_wp2_with (first | ((with_reducible refine gate_dst (N := 2) rfl ?_); refine box_event ?hg (N := 2) ?hd (cs := #[.int .i64 a0_0, .int .i64 a0_1, .bool a0_2, .bool a0_3, .int .i64 a0_4, .int .i64 a0_5, .int .i64 a0_6, .int .i64 a0_7, .int .i64 a0_8, .int .i64 a0_9]) (t := 23) ?hr ?_; (case hd => rfl); (case hg => rfl); (case hr => first | (go_simp; done) | (go_simp; rfl)); intro gb356 hg w11 hbox hb; have n0_ := Aside0.mk (below_step (by repeat (first | (with_reducible first | exact HB.out | apply below_alloc | apply pw_below_drewN | apply below_drew1) | exact HB.out)) hb); have n1_ := Aside0.mk (hbox); have n2_ := Aside0.mk ((by rw [hg]; exact (below_size (by repeat (first | (with_reducible first | exact HB.out | apply below_alloc | apply pw_below_drewN | apply below_drew1) | exact HB.out))) : w.heap.size ≤ gb356)); have n3_ := Aside0.mk ((by rw [hg]; exact (below_size (by repeat (first | (with_reducible first | exact HB.out | apply below_alloc | apply pw_below_drewN | apply below_drew1) | exact HB.out))) : w.heap.size ≤ gb356)); clear HB; have HB := n0_; have BK356 := n1_; have GW356 := n2_; have GE356 := n3_; clear n0_ n1_ n2_ n3_; clear hb hbox hg; have hcz12_0 : w11.cell? ⟨gb356, 0, none⟩ = some (.int .i64 a0_0) := (blk_cell BK356.out 0).trans rfl; have hcz12_1 : w11.cell? ⟨gb356, 1, none⟩ = some (.int .i64 a0_1) := (blk_cell BK356.out 1).trans rfl; have hcz12_2 : w11.cell? ⟨gb356, 2, none⟩ = some (.bool a0_2) := (blk_cell BK356.out 2).trans rfl; have hcz12_3 : w11.cell? ⟨gb356, 3, none⟩ = some (.bool a0_3) := (blk_cell BK356.out 3).trans rfl; have hcz12_4 : w11.cell? ⟨gb356, 4, none⟩ = some (.int .i64 a0_4) := (blk_cell BK356.out 4).trans rfl; have hcz12_5 : w11.cell? ⟨gb356, 5, none⟩ = some (.int .i64 a0_5) := (blk_cell BK356.out 5).trans rfl; have hcz12_6 : w11.cell? ⟨gb356, 6, none⟩ = some (.int .i64 a0_6) := (blk_cell BK356.out 6).trans rfl; have hcz12_7 : w11.cell? ⟨gb356, 7, none⟩ = some (.int .i64 a0_7) := (blk_cell BK356.out 7).trans rfl; have hcz12_8 : w11.cell? ⟨gb356, 8, none⟩ = some (.int .i64 a0_8) := (blk_cell BK356.out 8).trans rfl; have hcz12_9 : w11.cell? ⟨gb356, 9, none⟩ = some (.int .i64 a0_9) := (blk_cell BK356.out 9).trans rfl; have hfz12_0 := blk_frozen BK356.out 0; have hfz12_1 := blk_frozen BK356.out 1; have hfz12_2 := blk_frozen BK356.out 2; have hfz12_3 := blk_frozen BK356.out 3; have hfz12_4 := blk_frozen BK356.out 4; have hfz12_5 := blk_frozen BK356.out 5; have hfz12_6 := blk_frozen BK356.out 6; have hfz12_7 := blk_frozen BK356.out 7; have hfz12_8 := blk_frozen BK356.out 8; have hfz12_9 := blk_frozen BK356.out 9) | ((with_reducible refine gate_callee (f := 29) rfl ?_); refine goesL_ (some 9) rfl rfl Try.func29 (by kernel_rfl) rfl #[.agg #[.int .i64 a0_0, .int .i64 a0_1, .bool a0_2, .bool a0_3, .int .i64 a0_4, .int .i64 a0_5, .int .i64 a0_6, .int .i64 a0_7, .int .i64 a0_8, .int .i64 a0_9]] rfl (by (try simp only [List.map_toArray, List.map_cons, List.map_nil]); first | done | rfl | (simp only [List.length_drop, List.length_take]; rfl)) ?_; (with_reducible refine (format_Compact.calls a0_0 a0_1 a0_2 a0_3 a0_4 a0_5 a0_6 a0_7 a0_8 a0_9 t357 t358 _ A3.out).mono ?_); rintro e w13 ⟨rfl, hb⟩; refine ⟨_, rfl, ?_⟩; have n0_ := Aside0.mk (blk_below (g := gb356) (o := .cells #[.int .i64 a0_0, .int .i64 a0_1, .bool a0_2, .bool a0_3, .int .i64 a0_4, .int .i64 a0_5, .int .i64 a0_6, .int .i64 a0_7, .int .i64 a0_8, .int .i64 a0_9] 23 (0, 0)) (by (with_reducible repeat (first | refine blk_drewN ?_ _ | refine blk_drew ?_ | refine blk_alloc ?_ _)); exact BK356.out) hb); have n1_ := Aside0.mk (below_step (by repeat (first | (with_reducible first | exact HB.out | apply below_alloc | apply pw_below_drewN | apply below_drew1 | refine below_set ?_ GE356.out) | exact HB.out)) hb); clear BK356; clear HB; have BK356 := n0_; have HB := n1_; clear n0_ n1_; (try clear hb); (try clear hb2); (try clear hk); (try clear hi)))
      have n0_ := Aside0.mk (blk_drew BK356.out)
      have n1_ := Aside0.mk (below_drew1 HB.out)
      clear BK356
      clear HB
      have BK356 := n0_
      have HB := n1_
      clear n0_ n1_
      refine start_ (n := 13) (S := fun w' => w'.cell? ⟨gb356, 0, none⟩ = some (.int .i64 a0_0) ∧ w'.cell? ⟨gb356, 1, none⟩ = some (.int .i64 a0_1) ∧ w'.cell? ⟨gb356, 2, none⟩ = some (.bool a0_2) ∧ w'.cell? ⟨gb356, 3, none⟩ = some (.bool a0_3) ∧ w'.cell? ⟨gb356, 4, none⟩ = some (.int .i64 a0_4) ∧ w'.cell? ⟨gb356, 5, none⟩ = some (.int .i64 a0_5) ∧ w'.cell? ⟨gb356, 6, none⟩ = some (.int .i64 a0_6) ∧ w'.cell? ⟨gb356, 7, none⟩ = some (.int .i64 a0_7) ∧ w'.cell? ⟨gb356, 8, none⟩ = some (.int .i64 a0_8) ∧ w'.cell? ⟨gb356, 9, none⟩ = some (.int .i64 a0_9)) (ds := []) #[false, false, false, false, false, false, false, false, false, false, false, false, false] (by kernel_rfl) rfl rfl ⟨(blk_cell BK356.out 0).trans rfl, (blk_cell BK356.out 1).trans rfl, (blk_cell BK356.out 2).trans rfl, (blk_cell BK356.out 3).trans rfl, (blk_cell BK356.out 4).trans rfl, (blk_cell BK356.out 5).trans rfl, (blk_cell BK356.out 6).trans rfl, (blk_cell BK356.out 7).trans rfl, (blk_cell BK356.out 8).trans rfl, (blk_cell BK356.out 9).trans rfl⟩ (fun hHeld => ?_); refine with_tabW format_CPut.tab2 format_CPut.bits2 (fun HT_ HW_ => ?_)
      generalize w13.drew = w14 at BK356 HB hHeld ⊢
      refine pure_ (i := 1) (N := some 13) (v := ?_) (a' := ?_) #[false, true, false, false, false, false, false, false, false, false, false, false, false] rfl rfl (any_of HT_.out (by kernel_rfl)) (fun _ _ _ h => h) (Or.inl ⟨by rfl, ?_⟩) ?_ ?_
      rotate_left
      · intro w'
        go_simp
        with_reducible rfl
      rotate_left
      · simp only [Act.put, List.setIfInBounds_toArray, List.set_cons_zero, List.set_cons_succ, i64_w, i32_w]
        rfl
      refine pure_ (i := 2) (N := some 14) (v := ?_) (a' := ?_) #[false, true, true, false, false, false, false, false, false, false, false, false, false] rfl rfl (any_of HT_.out (by kernel_rfl)) (fun _ _ _ h => h) (Or.inl ⟨by rfl, ?_⟩) ?_ ?_
      rotate_left
      · intro w'
        go_simp
        with_reducible rfl
      rotate_left
      · simp only [Act.put, List.setIfInBounds_toArray, List.set_cons_zero, List.set_cons_succ, i64_w, i32_w]
        rfl
      refine pure_ (i := 9) (N := some 21) (v := ?_) (a' := ?_) #[false, true, true, false, false, false, false, false, false, true, false, false, false] rfl rfl (any_of HT_.out (by kernel_rfl)) (fun _ _ _ h => h) (Or.inl ⟨by rfl, ?_⟩) ?_ ?_
      rotate_left
      · intro w'
        go_simp
        with_reducible rfl
      rotate_left
      · simp only [Act.put, List.setIfInBounds_toArray, List.set_cons_zero, List.set_cons_succ, i64_w, i32_w]
        rfl
      refine take_ (i := 0) (N := some 12) (v := ?_) (a' := ?_) #[true, true, true, false, false, false, false, false, false, true, false, false, false] rfl rfl (take_ofW HT_.out HW_.out (by kernel_rfl)) (fun _ _ _ h => h) (Or.inl ⟨by rfl, ?_⟩) hHeld ?_ ?_
      rotate_left
      · rintro w' ⟨s0, s1, s2, s3, s4, s5, s6, s7, s8, s9⟩
        go_simp
        with_reducible rfl
      rotate_left
      · simp only [Act.put, List.setIfInBounds_toArray, List.set_cons_zero, List.set_cons_succ, i64_w, i32_w]
        rfl
      refine take_ (i := 3) (N := some 15) (v := ?_) (a' := ?_) #[true, true, true, true, false, false, false, false, false, true, false, false, false] rfl rfl (take_ofW HT_.out HW_.out (by kernel_rfl)) (fun _ _ _ h => h) (Or.inl ⟨by rfl, ?_⟩) hHeld ?_ ?_
      rotate_left
      · rintro w' ⟨s0, s1, s2, s3, s4, s5, s6, s7, s8, s9⟩
        go_simp
        with_reducible rfl
      rotate_left
      · simp only [Act.put, List.setIfInBounds_toArray, List.set_cons_zero, List.set_cons_succ, i64_w, i32_w]
        rfl
      refine one_ (i := 4) (N := some 16) #[true, true, true, true, true, false, false, false, false, true, false, false, false] rfl rfl (one_of HT_.out (by kernel_rfl)) (by decide) (fun K hK => ?_)
      refine goes_ Try.func20 (by kernel_rfl) rfl #[.agg #[.int .i64 a0_0, .int .i64 a0_1, .bool a0_2, .bool a0_3, .int .i64 a0_4, .int .i64 a0_5, .int .i64 a0_6, .int .i64 a0_7, .int .i64 a0_8, .int .i64 a0_9]] (by rfl) rfl rfl (by (try simp only [List.map_toArray, List.map_cons, List.map_nil]); first | done | rfl | (simp only [List.length_drop, List.length_take]; rfl)) ?_
      with_reducible refine (format_Size.calls a0_0 a0_1 a0_2 a0_3 a0_4 a0_5 a0_6 a0_7 a0_8 a0_9 t359 _ A4.out).mono ?_
      rintro e w15 ⟨rfl, hb⟩
      refine ⟨_, rfl, ?_⟩
      have n0_ := Aside0.mk (blk_below (g := gb356) (o := .cells #[.int .i64 a0_0, .int .i64 a0_1, .bool a0_2, .bool a0_3, .int .i64 a0_4, .int .i64 a0_5, .int .i64 a0_6, .int .i64 a0_7, .int .i64 a0_8, .int .i64 a0_9] 23 (0, 0)) (by (with_reducible repeat (first | refine blk_drewN ?_ _ | refine blk_drew ?_ | refine blk_alloc ?_ _)); exact BK356.out) hb)
      have n1_ := Aside0.mk (below_step (by repeat (first | (with_reducible first | exact HB.out | apply below_alloc | apply pw_below_drewN | apply below_drew1 | refine below_set ?_ GE356.out) | exact HB.out)) hb)
      clear BK356
      clear HB
      have BK356 := n0_
      have HB := n1_
      clear n0_ n1_
      (try clear hb)
      (try clear hb2)
      (try clear hk)
      (try clear hi)
      refine hK.out _ _ ⟨(blk_cell BK356.out 0).trans rfl, (blk_cell BK356.out 1).trans rfl, (blk_cell BK356.out 2).trans rfl, (blk_cell BK356.out 3).trans rfl, (blk_cell BK356.out 4).trans rfl, (blk_cell BK356.out 5).trans rfl, (blk_cell BK356.out 6).trans rfl, (blk_cell BK356.out 7).trans rfl, (blk_cell BK356.out 8).trans rfl, (blk_cell BK356.out 9).trans rfl⟩ (fun hHeld => ?_)
      clear hK K
      refine norm_ (a' := ?_) ?_ ?_
      rotate_left
      · show Act.put _ (some 16) _ = _
        simp only [Act.put, List.setIfInBounds_toArray, List.set_cons_zero, List.set_cons_succ, i64_w, i32_w]
        rfl
      refine pure_ (i := 5) (N := some 17) (v := ?_) (a' := ?_) #[true, true, true, true, true, true, false, false, false, true, false, false, false] rfl rfl (any_of HT_.out (by kernel_rfl)) (fun _ _ _ h => h) (Or.inl ⟨by rfl, ?_⟩) ?_ ?_
      rotate_left
      · intro w'
        go_simp
        with_reducible rfl
      rotate_left
      · simp only [Act.put, List.setIfInBounds_toArray, List.set_cons_zero, List.set_cons_succ, i64_w, i32_w]
        rfl
      refine pure_ (i := 6) (N := some 18) (v := ?_) (a' := ?_) #[true, true, true, true, true, true, true, false, false, true, false, false, false] rfl rfl (any_of HT_.out (by kernel_rfl)) (fun _ _ _ h => h) (Or.inl ⟨by rfl, ?_⟩) ?_ ?_
      rotate_left
      · intro w'
        go_simp
        with_reducible rfl
      rotate_left
      · simp only [Act.put, List.setIfInBounds_toArray, List.set_cons_zero, List.set_cons_succ, i64_w, i32_w]
        rfl
      refine pure_ (i := 7) (N := some 19) (v := ?_) (a' := ?_) #[true, true, true, true, true, true, true, true, false, true, false, false, false] rfl rfl (any_of HT_.out (by kernel_rfl)) (fun _ _ _ h => h) (Or.inl ⟨by rfl, ?_⟩) ?_ ?_
      rotate_left
      · intro w'
        go_simp
        with_reducible rfl
      rotate_left
      · simp only [Act.put, List.setIfInBounds_toArray, List.set_cons_zero, List.set_cons_succ, i64_w, i32_w]
        rfl
      refine pure_ (i := 8) (N := some 20) (v := ?_) (a' := ?_) #[true, true, true, true, true, true, true, true, true, true, false, false, false] rfl rfl (any_of HT_.out (by kernel_rfl)) (fun _ _ _ h => h) (Or.inl ⟨by rfl, ?_⟩) ?_ ?_
      rotate_left
      · intro w'
        go_simp
        with_reducible rfl
      rotate_left
      · simp only [Act.put, List.setIfInBounds_toArray, List.set_cons_zero, List.set_cons_succ, i64_w, i32_w]
        rfl
      refine pure_ (i := 10) (N := some 22) (v := ?_) (a' := ?_) #[true, true, true, true, true, true, true, true, true, true, true, false, false] rfl rfl (any_of HT_.out (by kernel_rfl)) (fun _ _ _ h => h) (Or.inl ⟨by rfl, ?_⟩) ?_ ?_
      rotate_left
      · intro w'
        go_simp
        with_reducible rfl
      rotate_left
      · simp only [Act.put, List.setIfInBounds_toArray, List.set_cons_zero, List.set_cons_succ, i64_w, i32_w]
        rfl
      refine one_ (i := 11) (N := some 23) #[true, true, true, true, true, true, true, true, true, true, true, true, false] rfl rfl (one_of HT_.out (by kernel_rfl)) (by decide) (fun K hK => ?_)
      refine goes_ Try.func47 (by kernel_rfl) rfl #[.agg #[.int .i64 a0_0, .int .i64 a0_1, .bool a0_2, .bool a0_3, .int .i64 a0_4, .int .i64 a0_5, .int .i64 a0_6, .int .i64 a0_7, .int .i64 a0_8, .int .i64 a0_9], .int .i64 t357, .int .i64 ji9] (by rfl) rfl rfl (by (try simp only [List.map_toArray, List.map_cons, List.map_nil]); first | done | (simp only [hji9]; rfl) | rfl | (simp only [List.length_drop, List.length_take]; rfl)) ?_
      with_reducible refine (format_put.calls k a0_0 a0_1 a0_2 a0_3 a0_4 a0_5 a0_6 a0_7 a0_8 a0_9 t357 ji9 t360 _ A10.out).mono ?_
      rintro e w16 ⟨rfl, hb⟩
      refine ⟨_, rfl, ?_⟩
      have n0_ := Aside0.mk (blk_below (g := gb356) (o := .cells #[.int .i64 a0_0, .int .i64 a0_1, .bool a0_2, .bool a0_3, .int .i64 a0_4, .int .i64 a0_5, .int .i64 a0_6, .int .i64 a0_7, .int .i64 a0_8, .int .i64 a0_9] 23 (0, 0)) (by (with_reducible repeat (first | refine blk_drewN ?_ _ | refine blk_drew ?_ | refine blk_alloc ?_ _)); exact BK356.out) hb)
      have n1_ := Aside0.mk (below_step (by repeat (first | (with_reducible first | exact HB.out | apply below_alloc | apply pw_below_drewN | apply below_drew1 | refine below_set ?_ GE356.out) | exact HB.out)) hb)
      clear BK356
      clear HB
      have BK356 := n0_
      have HB := n1_
      clear n0_ n1_
      (try clear hb)
      (try clear hb2)
      (try clear hk)
      (try clear hi)
      refine hK.out _ _ ⟨(blk_cell BK356.out 0).trans rfl, (blk_cell BK356.out 1).trans rfl, (blk_cell BK356.out 2).trans rfl, (blk_cell BK356.out 3).trans rfl, (blk_cell BK356.out 4).trans rfl, (blk_cell BK356.out 5).trans rfl, (blk_cell BK356.out 6).trans rfl, (blk_cell BK356.out 7).trans rfl, (blk_cell BK356.out 8).trans rfl, (blk_cell BK356.out 9).trans rfl⟩ (fun hHeld => ?_)
      clear hK K
      refine norm_ (a' := ?_) ?_ ?_
      rotate_left
      · show Act.put _ (some 23) _ = _
        simp only [Act.put, List.setIfInBounds_toArray, List.set_cons_zero, List.set_cons_succ, i64_w, i32_w]
        rfl
      refine pure_ (i := 12) (N := some 4) (v := ?_) (a' := ?_) #[true, true, true, true, true, true, true, true, true, true, true, true, true] rfl rfl (any_of HT_.out (by kernel_rfl)) (fun _ _ _ h => h) (Or.inl ⟨by rfl, ?_⟩) ?_ ?_
      rotate_left
      · intro w'
        go_simp
        with_reducible rfl
      rotate_left
      · simp only [Act.put, List.setIfInBounds_toArray, List.set_cons_zero, List.set_cons_succ, i64_w, i32_w]
        rfl
      refine done_ (done_of HT_.out (by kernel_rfl)) ?_
      try go_wp2
      go_ret
      exact ⟨by first | rfl | (simp [errW_none, errW_some] <;> rfl) | (simp only [← hji5, ← hji7, ← hji9]; first | rfl | (simp [errW_none, errW_some] <;> rfl)) | (simp [*, errW_none, errW_some] <;> rfl), by repeat (first | (with_reducible first | exact HB.out | apply below_alloc | apply pw_below_drewN | apply below_drew1 | refine below_set ?_ GE356.out) | exact HB.out)⟩
    · rw [if_neg c8] at H
      exact absurd H (by simp)
  · rw [if_neg c6] at H
    exact absurd H (by simp)

/-! ### miradorref01_Turned: function 26 -/
def miradorref01_Turned.l0 : Nat → ByteArray → ByteArray → Int → Option (ByteArray)
  | 0, _, _, _ => none
  | k + 1, x0, x3, x4 => if x4 < (x0.size : Int) then (if 0 ≤ x4 then (if x4 ≤ (wrap64 (x4 + 1)) then (if (wrap64 (x4 + 1)) ≤ (x0.size : Int) then (if (x0.extract (x4 : Int).toNat ((wrap64 (x4 + 1)) : Int).toNat).size + x3.size ≤ 9223372036854775807 then (miradorref01_Turned.l0 k x0 ((x0.extract (x4 : Int).toNat ((wrap64 (x4 + 1)) : Int).toNat) ++ x3) (wrap64 (x4 + 1))) else (none)) else (none)) else (none)) else (none)) else (some x3)
def miradorref01_Turned.f (k : Nat) (a0 : ByteArray) : Option (ByteArray) := miradorref01_Turned.l0 k a0 (⟨#[]⟩ : ByteArray) 0
theorem miradorref01_Turned.mono_l : ∀ k, (∀ y0 y1 y2, LeO (miradorref01_Turned.l0 k y0 y1 y2) (miradorref01_Turned.l0 (k + 1) y0 y1 y2))
  | 0 => fun _ _ _ r h => by simp [miradorref01_Turned.l0] at h
  | k + 1 => by
    have ih0 := miradorref01_Turned.mono_l k
    · intro y0 y1 y2
      unfold miradorref01_Turned.l0
      repeat' first
      | (with_reducible exact ih0 _ _ _)
      | (with_reducible exact LeO.refl _)
      | (with_reducible exact LeO.none _)
      | (with_reducible refine LeO.ite ?_ ?_)
      | (with_reducible refine LeO.bind ?_ (fun _ => ?_))
      | exact ih0 _ _ _
      | exact LeO.none _
      | refine LeO.ite ?_ ?_
      | refine LeO.bind ?_ (fun _ => ?_)
theorem miradorref01_Turned.mono : ∀ a0 k, LeO (miradorref01_Turned.f k a0) (miradorref01_Turned.f (k + 1) a0) := by
  intro a0 k
  have ih0 := miradorref01_Turned.mono_l k
  unfold miradorref01_Turned.f
  repeat' first
      | (with_reducible exact ih0 _ _ _)
      | (with_reducible exact LeO.refl _)
      | (with_reducible exact LeO.none _)
      | (with_reducible refine LeO.ite ?_ ?_)
      | (with_reducible refine LeO.bind ?_ (fun _ => ?_))
      | exact ih0 _ _ _
      | exact LeO.none _
      | refine LeO.ite ?_ ?_
      | refine LeO.bind ?_ (fun _ => ?_)
set_option maxHeartbeats 8000000 in
set_option maxRecDepth 100000 in
theorem miradorref01_Turned.calls (k : Nat) (a0 : ByteArray) (r : ByteArray) (w : World) (h : miradorref01_Turned.f k a0 = some r) :
    Calls Try.prog 26 #[.string a0] w fun e w' => e = .returned (.string r) ∧ Drawn0 w w' := by
  have H : (miradorref01_Turned.l0 k a0 (⟨#[]⟩ : ByteArray) 0) = some r := h
  clear h
  have H' := Aside0.mk H
  clear H
  go_enter Try.func26, Try.ntmps26
  go_wp2
  go_loopg [3, 4] k (fun kq v3 v4 w' => ∃ (x3_1 : ByteArray) (x4_1 : Int), v3 = .string x3_1 ∧ v4 = .int .i64 x4_1 ∧ Aside0 (miradorref01_Turned.l0 kq a0 x3_1 x4_1 = some r) ∧ Aside0 (kq ≤ k) ∧ Drawn0 w w')
  case atStart => exact ⟨((⟨#[]⟩ : ByteArray)), (0), (by first | rfl | (simp; done) | (simp [*]; done)), (by first | rfl | (simp; done) | (simp [*]; done)), H', ⟨Nat.le_refl _⟩, by repeat (first | exact Drawn0.refl _ | apply Drawn0.step)⟩
  case round =>
    clear H'
    obtain ⟨x3_1, x4_1, rfl, rfl, HA, HK1, ⟨m1, rfl⟩⟩ := hrel
    cases gk with
    | zero => exact absurd HA.out (by simp [miradorref01_Turned.l0])
    | succ k1 =>
      have H := HA.out
      clear HA
      simp only [miradorref01_Turned.l0] at H
      by_cases c2 : x4_1 < (a0.size : Int)
      · rw [if_pos c2] at H
        have c2b0 : decide (x4_1 < (a0.size : Int)) = true := decide_eq_true c2
        clear c2
        by_cases c3 : 0 ≤ x4_1
        · rw [if_pos c3] at H
          have c3b0 := eq_true c3
          have c3b1 : decide (0 ≤ x4_1) = true := decide_eq_true c3
          clear c3
          by_cases c4 : x4_1 ≤ (wrap64 (x4_1 + 1))
          · rw [if_pos c4] at H
            have c4b0 := eq_true c4
            have c4b1 : decide (x4_1 ≤ (wrap64 (x4_1 + 1))) = true := decide_eq_true c4
            by_cases c5 : (wrap64 (x4_1 + 1)) ≤ (a0.size : Int)
            · rw [if_pos c5] at H
              have c5b0 := eq_true c5
              have c5b1 : decide ((wrap64 (x4_1 + 1)) ≤ (a0.size : Int)) = true := decide_eq_true c5
              by_cases c6 : (a0.extract (x4_1 : Int).toNat ((wrap64 (x4_1 + 1)) : Int).toNat).size + x3_1.size ≤ 9223372036854775807
              · rw [if_pos c6] at H
                have c6b0 := eq_true c6
                have c6b1 : decide ((a0.extract (x4_1 : Int).toNat ((wrap64 (x4_1 + 1)) : Int).toNat).size + x3_1.size ≤ 9223372036854775807) = true := decide_eq_true c6
                try have c6b2 : (9223372036854775807 < (a0.extract (x4_1 : Int).toNat ((wrap64 (x4_1 + 1)) : Int).toNat).size + x3_1.size) = False := eq_false (Nat.not_lt.2 c6)
                have H' := Aside0.mk H
                clear H
                go_wp2
                go_roundg k1
                case measure => have := HK1.out; omega
                case rel => exact ⟨((a0.extract (x4_1 : Int).toNat ((wrap64 (x4_1 + 1)) : Int).toNat) ++ x3_1), (wrap64 (x4_1 + 1)), (by first | rfl | (simp; done) | (simp [*]; done)), (by first | rfl | (simp; done) | (simp [*]; done)), H', ⟨by have := HK1.out; omega⟩, by repeat (first | exact Drawn0.refl _ | apply Drawn0.step)⟩
              · rw [if_neg c6] at H
                exact absurd H (by simp)
            · rw [if_neg c5] at H
              exact absurd H (by simp)
          · rw [if_neg c4] at H
            exact absurd H (by simp)
        · rw [if_neg c3] at H
          exact absurd H (by simp)
      · rw [if_neg c2] at H
        have c2b0 : decide (x4_1 < (a0.size : Int)) = false := decide_eq_false c2
        clear c2
        obtain rfl := Option.some.inj H
        go_wp2
        go_ret
        exact ⟨by first | rfl | (simp; done) | (simp [*]; done), by repeat (first | exact Drawn0.refl _ | apply Drawn0.step)⟩

end Go.Proofs.Ytaielfghgmghgaa.X
