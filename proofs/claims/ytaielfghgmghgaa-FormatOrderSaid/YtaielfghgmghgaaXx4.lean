/- What each Go function that these laws use answers: as a Lean function, with the proof that the machine's call comes to it. Written by a program of this session (xprint.py). -/
import Derived.Test.YtaielfghgmghgaaXx0
import Derived.Test.YtaielfghgmghgaaXx2
import Derived.Test.YtaielfghgmghgaaXx3
namespace Go.Proofs.Ytaielfghgmghgaa.X
open Go.RowKit Go.Proofs.YtaielfghgmghgaaW.PrintWords Go.Proofs.YtaielfghgmghgaaW.PrintLast Go.Proofs.YtaielfghgmghgaaW.PrintMore
attribute [local go_sem] max2_int min2_int max_two min_two max_three min_three max_four min_four   -- for this text's walks alone
set_option linter.unusedVariables false
set_option linter.unusedSimpArgs false

/-! ### format_bit: function 41 -/
def format_bit.f (a0 : Bool) : Option (Int) := if a0 = true then (some 1) else (some 0)
set_option maxHeartbeats 8000000 in
set_option maxRecDepth 100000 in
theorem format_bit.calls (a0 : Bool) (r : Int) (w : World) (h : format_bit.f a0 = some r) :
    Calls Try.prog 41 #[.bool a0] w fun e w' => e = .returned (.int .i64 r) ∧ Drawn0 w w' := by
  have H : (if a0 = true then (some 1) else (some 0)) = some r := h
  clear h
  by_cases c2 : a0 = true
  · subst c2
    have H1 : (some 1) = some r := by rw [if_pos rfl] at H; exact H
    clear H
    have H := H1
    clear H1
    obtain rfl := Option.some.inj H
    go_enter Try.func41, Try.ntmps41
    go_wp2
    go_ret
    exact ⟨by first | rfl | (simp; done) | (simp [*]; done), by repeat (first | exact Drawn0.refl _ | apply Drawn0.step)⟩
  · replace c2 := Bool.eq_false_iff.mpr c2
    subst c2
    have H1 : (some 0) = some r := by rw [if_neg (show ¬ (false = true) by decide)] at H; exact H
    clear H
    have H := H1
    clear H1
    obtain rfl := Option.some.inj H
    go_enter Try.func41, Try.ntmps41
    go_wp2
    go_ret
    exact ⟨by first | rfl | (simp; done) | (simp [*]; done), by repeat (first | exact Drawn0.refl _ | apply Drawn0.step)⟩

/-! ### octets_Little: function 55 -/
mutual
def octets_Little.j0 : Nat → Int → Int → Bool → Option (ByteArray × Int)
  | 0, _, _, _ => none
  | k + 1, x0, x1, x21 => if x21 = true then (some ((⟨#[]⟩ : ByteArray), 1)) else (if 0 ≤ x0 then (if (x0 : Int).toNat ≤ 281474976710656 then (octets_Little.l0 k x1 (List.replicate (x0 : Int).toNat 0) x0 0) else (none)) else (none))
def octets_Little.l0 : Nat → Int → List Int → Int → Int → Option (ByteArray × Int)
  | 0, _, _, _, _ => none
  | k + 1, x1, x6, x24, x25 => if x25 < x24 then (if 0 ≤ (wrap64 (8 * x25)) then (if 0 ≤ x25 then (if x25 < (x6.length : Int) then (octets_Little.l0 k x1 (x6.set (x25 : Int).toNat ((shr .i64 x1 (wrap64 (8 * x25))) % 256)) x24 (wrap64 (x25 + 1))) else (none)) else (none)) else (none)) else (some (strOfNums x6, 0))
end
def octets_Little.f (k : Nat) (a0 : Int) (a1 : Int) : Option (ByteArray × Int) := (octets_wide.f a0).bind fun t178 => (if t178 = true then (if a1 < 0 then (octets_Little.j0 k a0 a1 true) else (if 0 ≤ (wrap64 (8 * a0)) then (octets_Little.j0 k a0 a1 ((shr .i64 a1 (wrap64 (8 * a0))) != 0)) else (none))) else (octets_Little.j0 k a0 a1 true))
theorem octets_Little.mono_l : ∀ k, (∀ y0 y1 y2, LeO (octets_Little.j0 k y0 y1 y2) (octets_Little.j0 (k + 1) y0 y1 y2)) ∧ (∀ y0 y1 y2 y3, LeO (octets_Little.l0 k y0 y1 y2 y3) (octets_Little.l0 (k + 1) y0 y1 y2 y3))
  | 0 => ⟨fun _ _ _ r h => by simp [octets_Little.j0] at h, fun _ _ _ _ r h => by simp [octets_Little.l0] at h⟩
  | k + 1 => by
    obtain ⟨ih0, ih1⟩ := octets_Little.mono_l k
    refine ⟨?_, ?_⟩
    · intro y0 y1 y2
      unfold octets_Little.j0
      repeat' first
      | (with_reducible exact ih0 _ _ _)
      | (with_reducible exact ih1 _ _ _ _)
      | (with_reducible exact LeO.refl _)
      | (with_reducible exact LeO.none _)
      | (with_reducible refine LeO.ite ?_ ?_)
      | (with_reducible refine LeO.bind ?_ (fun _ => ?_))
      | exact ih0 _ _ _
      | exact ih1 _ _ _ _
      | exact LeO.none _
      | refine LeO.ite ?_ ?_
      | refine LeO.bind ?_ (fun _ => ?_)
    · intro y0 y1 y2 y3
      unfold octets_Little.l0
      repeat' first
      | (with_reducible exact ih0 _ _ _)
      | (with_reducible exact ih1 _ _ _ _)
      | (with_reducible exact LeO.refl _)
      | (with_reducible exact LeO.none _)
      | (with_reducible refine LeO.ite ?_ ?_)
      | (with_reducible refine LeO.bind ?_ (fun _ => ?_))
      | exact ih0 _ _ _
      | exact ih1 _ _ _ _
      | exact LeO.none _
      | refine LeO.ite ?_ ?_
      | refine LeO.bind ?_ (fun _ => ?_)
theorem octets_Little.mono : ∀ a0 a1 k, LeO (octets_Little.f k a0 a1) (octets_Little.f (k + 1) a0 a1) := by
  intro a0 a1 k
  obtain ⟨ih0, ih1⟩ := octets_Little.mono_l k
  unfold octets_Little.f
  repeat' first
      | (with_reducible exact ih0 _ _ _)
      | (with_reducible exact ih1 _ _ _ _)
      | (with_reducible exact LeO.refl _)
      | (with_reducible exact LeO.none _)
      | (with_reducible refine LeO.ite ?_ ?_)
      | (with_reducible refine LeO.bind ?_ (fun _ => ?_))
      | exact ih0 _ _ _
      | exact ih1 _ _ _ _
      | exact LeO.none _
      | refine LeO.ite ?_ ?_
      | refine LeO.bind ?_ (fun _ => ?_)
set_option maxHeartbeats 8000000 in
set_option maxRecDepth 100000 in
theorem octets_Little.calls (k : Nat) (a0 : Int) (a1 : Int) (r1 : ByteArray) (r2 : Int) (w : World) (h : octets_Little.f k a0 a1 = some (r1, r2)) :
    Calls Try.prog 55 #[.int .i64 a0, .int .i64 a1] w fun e w' => e = .returned (.tuple #[.string r1, .int .i64 r2]) ∧ Below w.heap.size w w' := by
  have HB := Aside0.mk (Below.refl w.heap.size w)
  have H : ((octets_wide.f a0).bind fun t178 => (if t178 = true then (if a1 < 0 then (octets_Little.j0 k a0 a1 true) else (if 0 ≤ (wrap64 (8 * a0)) then (octets_Little.j0 k a0 a1 ((shr .i64 a1 (wrap64 (8 * a0))) != 0)) else (none))) else (octets_Little.j0 k a0 a1 true))) = some (r1, r2) := h
  clear h
  have HC3 := Aside0.mk H
  clear H
  go_enter Try.func55, Try.ntmps55
  go_upto_region 1 with (fail)
  go_cut [21] (fun v21 wc => ∃ (kq : Nat) (x21_2 : Bool), v21 = .bool x21_2 ∧ Aside0 (octets_Little.j0 kq a0 a1 x21_2 = some (r1, r2)) ∧ Aside0 (kq ≤ k) ∧ Aside0 (Below w.heap.size w wc))
  case first =>
    have H := HC3.out
    clear HC3
    replace H := Option.bind_eq_some_iff.mp H
    obtain ⟨t178, A40, H⟩ := H
    replace H : (if t178 = true then (if a1 < 0 then (octets_Little.j0 k a0 a1 true) else (if 0 ≤ (wrap64 (8 * a0)) then (octets_Little.j0 k a0 a1 ((shr .i64 a1 (wrap64 (8 * a0))) != 0)) else (none))) else (octets_Little.j0 k a0 a1 true)) = some (r1, r2) := H
    have A4 := Aside0.mk A40
    clear A40
    by_cases c5 : t178 = true
    · subst c5
      have H1 : (if a1 < 0 then (octets_Little.j0 k a0 a1 true) else (if 0 ≤ (wrap64 (8 * a0)) then (octets_Little.j0 k a0 a1 ((shr .i64 a1 (wrap64 (8 * a0))) != 0)) else (none))) = some (r1, r2) := by rw [if_pos rfl] at H; exact H
      clear H
      have H := H1
      clear H1
      by_cases c6 : a1 < 0
      · rw [if_pos c6] at H
        have c6b0 : decide (a1 < 0) = true := decide_eq_true c6
        clear c6
        (first | rw [c6b0] | (simp only [i64_w, i32_w]; rw [c6b0]) | skip)
        have H' := Aside0.mk H
        clear H
        go_wp2_with (first | ((with_reducible refine gate_callee (f := 59) rfl ?_); refine goesL_ (some 9) rfl rfl Try.func59 (by kernel_rfl) rfl #[.int .i64 a0] rfl (by (try simp only [List.map_toArray, List.map_cons, List.map_nil]); first | done | rfl | (simp only [List.length_drop, List.length_take]; rfl)) ?_; (with_reducible refine (octets_wide.calls a0 true _ A4.out).mono ?_); rintro e w' ⟨rfl, ⟨nd, rfl⟩⟩; refine ⟨_, rfl, ?_⟩))
        go_meet
        case rel => exact ⟨_, (true), (by first | rfl | (simp; done) | (simp [*]; done)), H', ⟨by first | omega | exact Nat.le_refl _⟩, ⟨by repeat (first | (with_reducible first | exact HB.out | apply below_alloc | apply pw_below_drewN | apply below_drew1) | exact HB.out)⟩⟩
      · rw [if_neg c6] at H
        have c6b0 : decide (a1 < 0) = false := decide_eq_false c6
        clear c6
        (first | rw [c6b0] | (simp only [i64_w, i32_w]; rw [c6b0]) | skip)
        obtain ⟨ji7, hji7⟩ : ∃ j_ : Int, (wrap64 (8 * a0)) = j_ := ⟨_, rfl⟩
        replace H : (if 0 ≤ (ji7) then (octets_Little.j0 k a0 a1 ((shr .i64 a1 (ji7)) != 0)) else (none)) = some (r1, r2) := by first | (rw [hji7] at H; exact H) | (simp only [hji7] at H ⊢; exact H)
        (try rw [hji7] at A4)
        have hji7w : (IntKind.i64.wrap (8 * a0)) = ji7 := (i64_w _).trans hji7
        by_cases c8 : 0 ≤ (ji7)
        · rw [if_pos c8] at H
          have c8b0 := eq_true c8
          have c8b1 : decide (0 ≤ (ji7)) = true := decide_eq_true c8
          clear c8
          obtain ⟨ji9, hji9⟩ : ∃ j_ : Int, (shr .i64 a1 (ji7)) = j_ := ⟨_, rfl⟩
          replace H : (octets_Little.j0 k a0 a1 ((ji9) != 0)) = some (r1, r2) := by first | (rw [hji9] at H; exact H) | (simp only [hji9] at H ⊢; exact H)
          (try rw [hji9] at A4)
          have hji9_ : (a1 / 2 ^ min (ji7).toNat 64) = ji9 := hji9
          have hji9z : (ji7) ≤ 64 → (a1 / 2 ^ (ji7).toNat) = ji9 := shr_small hji9
          have H' := Aside0.mk H
          clear H
          go_wp2_with (first | ((with_reducible refine gate_callee (f := 59) rfl ?_); refine goesL_ (some 9) rfl rfl Try.func59 (by kernel_rfl) rfl #[.int .i64 a0] rfl (by (try simp only [List.map_toArray, List.map_cons, List.map_nil]); first | done | rfl | (simp only [List.length_drop, List.length_take]; rfl)) ?_; (with_reducible refine (octets_wide.calls a0 true _ A4.out).mono ?_); rintro e w' ⟨rfl, ⟨nd, rfl⟩⟩; refine ⟨_, rfl, ?_⟩))
          go_meet
          case rel => exact ⟨_, (((ji9) != 0)), (by first | rfl | (simp; done) | (simp only [← hji9] <;> (first | rfl | simp)) | (simp [*]; done)), H', ⟨by first | omega | exact Nat.le_refl _⟩, ⟨by repeat (first | (with_reducible first | exact HB.out | apply below_alloc | apply pw_below_drewN | apply below_drew1) | exact HB.out)⟩⟩
        · rw [if_neg c8] at H
          exact absurd H (by simp)
    · replace c5 := Bool.eq_false_iff.mpr c5
      subst c5
      have H1 : (octets_Little.j0 k a0 a1 true) = some (r1, r2) := by rw [if_neg (show ¬ (false = true) by decide)] at H; exact H
      clear H
      have H := H1
      clear H1
      have H' := Aside0.mk H
      clear H
      go_wp2_with (first | ((with_reducible refine gate_callee (f := 59) rfl ?_); refine goesL_ (some 9) rfl rfl Try.func59 (by kernel_rfl) rfl #[.int .i64 a0] rfl (by (try simp only [List.map_toArray, List.map_cons, List.map_nil]); first | done | rfl | (simp only [List.length_drop, List.length_take]; rfl)) ?_; (with_reducible refine (octets_wide.calls a0 false _ A4.out).mono ?_); rintro e w' ⟨rfl, ⟨nd, rfl⟩⟩; refine ⟨_, rfl, ?_⟩))
      go_meet
      case rel => exact ⟨_, (true), (by first | rfl | (simp; done) | (simp [*]; done)), H', ⟨by first | omega | exact Nat.le_refl _⟩, ⟨by repeat (first | (with_reducible first | exact HB.out | apply below_alloc | apply pw_below_drewN | apply below_drew1) | exact HB.out)⟩⟩
  case rest =>
    clear HC3
    try clear p2
    try clear c5
    try clear c6
    try clear c6b0
    try clear p6
    try clear c8
    try clear c8b0
    try clear c8b1
    obtain ⟨kq, x21_2, rfl, HA, HJ2, HB⟩ := hcut
    cases kq with
    | zero => exact absurd HA.out (by simp [octets_Little.j0])
    | succ kj2 =>
      have H := HA.out
      clear HA
      simp only [octets_Little.j0] at H
      by_cases c10 : x21_2 = true
      · subst c10
        have H1 : (some ((⟨#[]⟩ : ByteArray), 1)) = some (r1, r2) := by rw [if_pos rfl] at H; exact H
        clear H
        have H := H1
        clear H1
        simp only [Option.some.injEq, Prod.mk.injEq] at H
        obtain ⟨rfl, rfl⟩ := H
        go_wp2
        go_ret2
        exact ⟨by first | rfl | (simp [errW_none, errW_some] <;> rfl) | (simp [*, errW_none, errW_some] <;> rfl), by repeat (first | (with_reducible first | exact HB.out | apply below_alloc | apply pw_below_drewN | apply below_drew1) | exact HB.out)⟩
      · replace c10 := Bool.eq_false_iff.mpr c10
        subst c10
        have H1 : (if 0 ≤ a0 then (if (a0 : Int).toNat ≤ 281474976710656 then (octets_Little.l0 kj2 a1 (List.replicate (a0 : Int).toNat 0) a0 0) else (none)) else (none)) = some (r1, r2) := by rw [if_neg (show ¬ (false = true) by decide)] at H; exact H
        clear H
        have H := H1
        clear H1
        by_cases c11 : 0 ≤ a0
        · rw [if_pos c11] at H
          have c11b0 := eq_true c11
          have c11b1 : decide (0 ≤ a0) = true := decide_eq_true c11
          clear c11
          by_cases c12 : (a0 : Int).toNat ≤ 281474976710656
          · rw [if_pos c12] at H
            have c12b0 := eq_true c12
            have c12b1 : decide ((a0 : Int).toNat ≤ 281474976710656) = true := decide_eq_true c12
            clear c12
            obtain ⟨y179, hy179⟩ : ∃ y_ : List Int, y_ = (List.replicate (a0 : Int).toNat 0) := ⟨_, rfl⟩
            replace H : (octets_Little.l0 kj2 a1 y179 a0 0) = some (r1, r2) := by first | (rw [hy179]; with_reducible exact H) | (have H2_ := (Option.bind_some _ _).symm.trans H; rw [hy179]; with_reducible exact H2_) | (have H2_ := (Option.bind_some _ _).symm.trans H; with_reducible exact H2_) | with_reducible exact H | (rw [hy179]; exact H) | exact H
            have Ny179 := Aside0.mk hy179
            clear hy179
            have H' := Aside0.mk H
            clear H
            go_wp2_with (first | ((with_reducible refine gate_dst (N := 23) rfl ?_); refine Kd.R_make (Kd.int .u8) _ 5 rfl (N := 23) rfl 72 _ _ rfl a0 rfl rfl Try.underlying72 (.int .u8 0) 1 info5 rfl (by decide) (by omega) 0 (ok := fun _ => True) (okp := fun _ => True) rfl (fun _ hk => hk) trivial (of_decide_eq_true (by first | (with_reducible assumption) | assumption)) (Nat.le_trans (Nat.mul_le_mul_right _ (of_decide_eq_true (by first | (with_reducible assumption) | assumption) : a0.toNat ≤ 281474976710656)) (by omega)) (Below.refl _ _) (Nat.le_refl _) ?_; intro v180 w13 ho14 hb hg_ hnew_; clear hg_ hnew_; (first | rw [← Ny179.out] at ho14 | (simp only [Int.reduceToNat] at ho14; rw [← Ny179.out] at ho14)); have n0_ := Aside0.mk (Kd.R_lower ho14 (below_size (by repeat (first | (with_reducible first | exact HB.out | apply below_alloc | apply pw_below_drewN | apply below_drew1) | exact HB.out)))); have n1_ := Aside0.mk (below_step (by repeat (first | (with_reducible first | exact HB.out | apply below_alloc | apply pw_below_drewN | apply below_drew1) | exact HB.out)) hb); clear HB; have HO181 := n0_; have HB := n1_; clear n0_ n1_; clear hb ho14))
            go_loopg [25] kj2 (fun kq v25 w' => ∃ (x6_2 : List Int) (x25_2 : Int), v25 = .int .i64 x25_2 ∧ Aside0 (octets_Little.l0 kq a1 x6_2 a0 x25_2 = some (r1, r2)) ∧ Aside0 (kq ≤ kj2) ∧ Aside0 (Kd.R (Kd.int .u8) 5 w' w.heap.size (fun _ => True) v180 x6_2) ∧ Aside0 (Below w.heap.size w w'))
            case atStart => exact ⟨(y179), (0), (by first | rfl | (simp; done) | (simp [*]; done)), H', ⟨Nat.le_refl _⟩, ⟨by (with_reducible repeat (first | apply Kd.R_alloc | apply Kd.R_drewN | apply Kd.R_drew)); exact HO181.out⟩, ⟨by repeat (first | (with_reducible first | exact HB.out | apply below_alloc | apply pw_below_drewN | apply below_drew1) | exact HB.out)⟩⟩
            case round =>
              clear H'
              try clear c1
              try clear p2
              try clear c5
              try clear c6
              try clear c6b0
              try clear p6
              try clear c8
              try clear c8b0
              try clear c8b1
              try clear c10
              try clear c11
              try clear c11b0
              try clear c11b1
              try clear c12
              try clear c12b0
              try clear c12b1
              try clear p2
              try clear p6
              obtain ⟨x6_2, x25_2, rfl, HA, HK2, HO_6, HB⟩ := hrel
              cases gk with
              | zero => exact absurd HA.out (by simp [octets_Little.l0])
              | succ k2 =>
                have H := HA.out
                clear HA
                simp only [octets_Little.l0] at H
                by_cases c15 : x25_2 < a0
                · rw [if_pos c15] at H
                  have c15b0 : decide (x25_2 < a0) = true := decide_eq_true c15
                  clear c15
                  obtain ⟨ji16, hji16⟩ : ∃ j_ : Int, (wrap64 (8 * x25_2)) = j_ := ⟨_, rfl⟩
                  replace H : (if 0 ≤ (ji16) then (if 0 ≤ x25_2 then (if x25_2 < (x6_2.length : Int) then (octets_Little.l0 k2 a1 (x6_2.set (x25_2 : Int).toNat ((shr .i64 a1 (ji16)) % 256)) a0 (wrap64 (x25_2 + 1))) else (none)) else (none)) else (none)) = some (r1, r2) := by first | (rw [hji16] at H; exact H) | (simp only [hji16] at H ⊢; exact H)
                  have hji16w : (IntKind.i64.wrap (8 * x25_2)) = ji16 := (i64_w _).trans hji16
                  by_cases c17 : 0 ≤ (ji16)
                  · rw [if_pos c17] at H
                    have c17b0 := eq_true c17
                    have c17b1 : decide (0 ≤ (ji16)) = true := decide_eq_true c17
                    clear c17
                    obtain ⟨ji18, hji18⟩ : ∃ j_ : Int, (shr .i64 a1 (ji16)) = j_ := ⟨_, rfl⟩
                    replace H : (if 0 ≤ x25_2 then (if x25_2 < (x6_2.length : Int) then (octets_Little.l0 k2 a1 (x6_2.set (x25_2 : Int).toNat ((ji18) % 256)) a0 (wrap64 (x25_2 + 1))) else (none)) else (none)) = some (r1, r2) := by first | (rw [hji18] at H; exact H) | (simp only [hji18] at H ⊢; exact H)
                    have hji18_ : (a1 / 2 ^ min (ji16).toNat 64) = ji18 := hji18
                    have hji18z : (ji16) ≤ 64 → (a1 / 2 ^ (ji16).toNat) = ji18 := shr_small hji18
                    by_cases c19 : 0 ≤ x25_2
                    · rw [if_pos c19] at H
                      have c19b0 : decide (0 ≤ x25_2) = true := decide_eq_true c19
                      clear c19
                      by_cases c20 : x25_2 < (x6_2.length : Int)
                      · rw [if_pos c20] at H
                        have c20b0 : decide (x25_2 < (x6_2.length : Int)) = true := decide_eq_true c20
                        clear c20
                        obtain ⟨y182, hy182⟩ : ∃ y_ : List Int, y_ = (x6_2.set (x25_2 : Int).toNat ((ji18) % 256)) := ⟨_, rfl⟩
                        replace H : (octets_Little.l0 k2 a1 y182 a0 (wrap64 (x25_2 + 1))) = some (r1, r2) := by first | (rw [hy182]; with_reducible exact H) | (have H2_ := (Option.bind_some _ _).symm.trans H; rw [hy182]; with_reducible exact H2_) | (have H2_ := (Option.bind_some _ _).symm.trans H; with_reducible exact H2_) | with_reducible exact H | (rw [hy182]; exact H) | exact H
                        have Ny182 := Aside0.mk hy182
                        clear hy182
                        have H' := Aside0.mk H
                        clear H
                        have p21 : 0 ≤ (x25_2 : Int) := of_decide_eq_true (by first | (with_reducible assumption) | assumption)
                        have q21 : (x25_2 : Int) < ((x6_2.length : Int) : Int) := of_decide_eq_true (by first | (with_reducible assumption) | assumption)
                        obtain ⟨go21, co21, eo21, gb21, gl21, cl21, HG21⟩ := Kd.R_form HO_6.out (by omega)
                        (first | cases eo21 | (injection eo21 with ea_ en_ ec_; (first | subst ea_ | (injection ea_ with ea_; subst ea_)); subst ec_; clear en_))
                        have GB21 := Aside0.mk gb21
                        have GG21 := Aside0.mk HG21
                        clear gb21 gl21 HG21
                        obtain ⟨hx21_0, hf21_0⟩ := Kd.R_celln 0 HO_6.out (x25_2 : Int) p21 q21
                        replace p21 := eq_true p21
                        replace q21 := eq_true q21
                        have HP22 := Kd.R_putg HO_6.out (x25_2 : Int) ((ji18) % 256)
                        go_wp2_with (first | ((with_reducible refine gate_store (t := 5) (p := 35) rfl ?_); refine store_event (t := 5) (p := 35) (v := ?vo_w23) (w1 := (wr.setCell ⟨go21, (x25_2 : Int).toNat, none⟩ (.int .u8 ((ji18) % 256)))) ?hg ?ho ?hn ?hr ?_; (case ho => rfl); (case hg => rfl); (case hn => rfl); (case hr => first | (go_simp; done) | (go_simp; rfl)); intro w23 hw; have hg : wr.grownBy w23 (some go21) := (by rw [hw]; exact HP22.2); have hp_ : Kd.R (Kd.int .u8) 5 w23 w.heap.size (fun _ => True) (.slice (some ⟨go21, 0, none⟩) x6_2.length co21) y182 := (by rw [hw, Ny182.out]; exact HP22.1); clear HP22; have n0_ := Aside0.mk (hp_); have n1_ := Aside0.mk ((by rw [hw]; exact below_set (HB.out) GB21.out : Below w.heap.size w w23)); clear HO_6; clear HB; have HO_6 := n0_; have HB := n1_; clear n0_ n1_; clear hg hw hp_))
                        go_roundg k2
                        case measure => have := HJ2.out; have := HK2.out; omega
                        case rel => exact ⟨(y182), (wrap64 (x25_2 + 1)), (by first | rfl | (simp; done) | (simp [*]; done)), H', ⟨by have := HJ2.out; have := HK2.out; omega⟩, ⟨by (with_reducible repeat (first | apply Kd.R_alloc | apply Kd.R_drewN | apply Kd.R_drew)); exact HO_6.out⟩, ⟨by repeat (first | (with_reducible first | exact HB.out | apply below_alloc | apply pw_below_drewN | apply below_drew1) | exact HB.out)⟩⟩
                      · rw [if_neg c20] at H
                        exact absurd H (by simp)
                    · rw [if_neg c19] at H
                      exact absurd H (by simp)
                  · rw [if_neg c17] at H
                    exact absurd H (by simp)
                · rw [if_neg c15] at H
                  have c15b0 : decide (x25_2 < a0) = false := decide_eq_false c15
                  clear c15
                  simp only [Option.some.injEq, Prod.mk.injEq] at H
                  obtain ⟨rfl, rfl⟩ := H
                  have hcv24 := own_string (P := Try.prog) Try.underlying72 Try.underlying5 Try.underlying9 (Kd.own_of_R HO_6.out)
                  go_wp2
                  go_ret2
                  exact ⟨by first | rfl | (simp [errW_none, errW_some] <;> rfl) | (simp [*, errW_none, errW_some] <;> rfl), by repeat (first | (with_reducible first | exact HB.out | apply below_alloc | apply pw_below_drewN | apply below_drew1) | exact HB.out)⟩
          · rw [if_neg c12] at H
            exact absurd H (by simp)
        · rw [if_neg c11] at H
          exact absurd H (by simp)

/-! ### octets_Put: function 42 -/
def octets_Put.f (k : Nat) (a0 : Int) (a1 : Int) : Option (ByteArray × Int) := (octets_Little.f k a0 a1).bind fun bt183 => ((octets_turned.f bt183.1).bind fun t185 => (some (t185, bt183.2)))
theorem octets_Put.mono : ∀ a0 a1 k, LeO (octets_Put.f k a0 a1) (octets_Put.f (k + 1) a0 a1) := by
  intro a0 a1 k
  unfold octets_Put.f
  repeat' first
      | (with_reducible exact octets_Little.mono _ _ _)
      | (with_reducible exact LeO.refl _)
      | (with_reducible exact LeO.none _)
      | (with_reducible refine LeO.ite ?_ ?_)
      | (with_reducible refine LeO.bind ?_ (fun _ => ?_))
      | exact octets_Little.mono _ _ _
      | exact LeO.none _
      | refine LeO.ite ?_ ?_
      | refine LeO.bind ?_ (fun _ => ?_)
set_option maxHeartbeats 8000000 in
set_option maxRecDepth 100000 in
theorem octets_Put.calls (k : Nat) (a0 : Int) (a1 : Int) (r1 : ByteArray) (r2 : Int) (w : World) (h : octets_Put.f k a0 a1 = some (r1, r2)) :
    Calls Try.prog 42 #[.int .i64 a0, .int .i64 a1] w fun e w' => e = .returned (.tuple #[.string r1, .int .i64 r2]) ∧ Below w.heap.size w w' := by
  have HB := Aside0.mk (Below.refl w.heap.size w)
  have H : ((octets_Little.f k a0 a1).bind fun bt183 => ((octets_turned.f bt183.1).bind fun t185 => (some (t185, bt183.2)))) = some (r1, r2) := h
  clear h
  replace H := Option.bind_eq_some_iff.mp H
  obtain ⟨⟨t183, t184⟩, A30, H⟩ := H
  replace H : ((octets_turned.f t183).bind fun t185 => (some (t185, t184))) = some (r1, r2) := H
  have A3 := Aside0.mk A30
  clear A30
  replace H := Option.bind_eq_some_iff.mp H
  obtain ⟨t185, A40, H⟩ := H
  replace H : (some (t185, t184)) = some (r1, r2) := H
  have A4 := Aside0.mk A40
  clear A40
  simp only [Option.some.injEq, Prod.mk.injEq] at H
  obtain ⟨rfl, rfl⟩ := H
  go_enter Try.func42, Try.ntmps42
  go_wp2_with (first | ((with_reducible refine gate_callee (f := 55) rfl ?_); refine goesL_ (some 11) rfl rfl Try.func55 (by kernel_rfl) rfl #[.int .i64 a0, .int .i64 a1] rfl (by (try simp only [List.map_toArray, List.map_cons, List.map_nil]); first | done | rfl | (simp only [List.length_drop, List.length_take]; rfl)) ?_; (with_reducible refine (octets_Little.calls k a0 a1 t183 t184 _ A3.out).mono ?_); rintro e w5 ⟨rfl, hb⟩; refine ⟨_, rfl, ?_⟩; have n0_ := Aside0.mk (below_step (by repeat (first | (with_reducible first | exact HB.out | apply below_alloc | apply pw_below_drewN | apply below_drew1) | exact HB.out)) hb); clear HB; have HB := n0_; clear n0_; (try clear hb); (try clear hb2); (try clear hk); (try clear hi)) | ((with_reducible refine gate_callee (f := 50) rfl ?_); refine goesL_ (some 15) rfl rfl Try.func50 (by kernel_rfl) rfl #[.string t183] rfl (by (try simp only [List.map_toArray, List.map_cons, List.map_nil]); first | done | rfl | (simp only [List.length_drop, List.length_take]; rfl)) ?_; (with_reducible refine (octets_turned.calls t183 t185 _ A4.out).mono ?_); rintro e w6 ⟨rfl, hb⟩; refine ⟨_, rfl, ?_⟩; have n0_ := Aside0.mk (below_step (by repeat (first | (with_reducible first | exact HB.out | apply below_alloc | apply pw_below_drewN | apply below_drew1) | exact HB.out)) hb); clear HB; have HB := n0_; clear n0_; (try clear hb); (try clear hb2); (try clear hk); (try clear hi)))
  go_ret2
  exact ⟨by first | rfl | (simp [errW_none, errW_some] <;> rfl) | (simp [*, errW_none, errW_some] <;> rfl), by repeat (first | (with_reducible first | exact HB.out | apply below_alloc | apply pw_below_drewN | apply below_drew1) | exact HB.out)⟩

/-! ### format_Bytes: function 13 -/
/-- The ten pieces. -/
def format_tens (a0_0 : Int) (a0_1 : Int) (a0_4 : Int) (a0_5 : Int) (a0_6 : Int) (a0_7 : Int) (a0_8 : Int) (a0_9 : Int) (b2 b3 : Int) : List (Int × Int) := [(1, a0_0), (1, a0_1), (1, b2), (1, b3), (2, a0_4), (2, a0_5), (2, a0_6), (1, a0_7), (1, a0_8), (1, a0_9)]
def format_ten (a0_0 : Int) (a0_1 : Int) (a0_4 : Int) (a0_5 : Int) (a0_6 : Int) (a0_7 : Int) (a0_8 : Int) (a0_9 : Int) (b2 b3 : Int) : Nat → Int × Int
  | 0 => (1, a0_0) | 1 => (1, a0_1) | 2 => (1, b2) | 3 => (1, b3) | 4 => (2, a0_4) | 5 => (2, a0_5) | 6 => (2, a0_6) | 7 => (1, a0_7) | 8 => (1, a0_8) | _ => (1, a0_9)
theorem format_tens_at (a0_0 : Int) (a0_1 : Int) (a0_4 : Int) (a0_5 : Int) (a0_6 : Int) (a0_7 : Int) (a0_8 : Int) (a0_9 : Int) (b2 b3 : Int) (k : Nat) (hk : k < 10) : (format_tens a0_0 a0_1 a0_4 a0_5 a0_6 a0_7 a0_8 a0_9 b2 b3).drop k = ((format_ten a0_0 a0_1 a0_4 a0_5 a0_6 a0_7 a0_8 a0_9 b2 b3 k).1, (format_ten a0_0 a0_1 a0_4 a0_5 a0_6 a0_7 a0_8 a0_9 b2 b3 k).2) :: (format_tens a0_0 a0_1 a0_4 a0_5 a0_6 a0_7 a0_8 a0_9 b2 b3).drop (k + 1) := by
  rcases (show k = 0 ∨ k = 1 ∨ k = 2 ∨ k = 3 ∨ k = 4 ∨ k = 5 ∨ k = 6 ∨ k = 7 ∨ k = 8 ∨ k = 9 by omega) with rfl | rfl | rfl | rfl | rfl | rfl | rfl | rfl | rfl | rfl <;> rfl
theorem format_index10 (a0_0 : Int) (a0_1 : Int) (a0_4 : Int) (a0_5 : Int) (a0_6 : Int) (a0_7 : Int) (a0_8 : Int) (a0_9 : Int) (b2 b3 : Int) (k : Nat) (hk : k < 10) (w : World) : (Instr.index 59 (.agg #[.int .i64 1, .int .i64 a0_0, .int .i64 1, .int .i64 a0_1, .int .i64 1, .int .i64 b2, .int .i64 1, .int .i64 b3, .int .i64 2, .int .i64 a0_4, .int .i64 2, .int .i64 a0_5, .int .i64 2, .int .i64 a0_6, .int .i64 1, .int .i64 a0_7, .int .i64 1, .int .i64 a0_8, .int .i64 1, .int .i64 a0_9]) (.int .i64 (k : Int))).run Try.prog w = .ok (.agg #[.int .i64 (format_ten a0_0 a0_1 a0_4 a0_5 a0_6 a0_7 a0_8 a0_9 b2 b3 k).1, .int .i64 (format_ten a0_0 a0_1 a0_4 a0_5 a0_6 a0_7 a0_8 a0_9 b2 b3 k).2]) w := by
  rcases (show k = 0 ∨ k = 1 ∨ k = 2 ∨ k = 3 ∨ k = 4 ∨ k = 5 ∨ k = 6 ∨ k = 7 ∨ k = 8 ∨ k = 9 by omega) with rfl | rfl | rfl | rfl | rfl | rfl | rfl | rfl | rfl | rfl <;> kernel_rfl
def format_bF : List (Int × Int) → ByteArray → Option ByteArray
  | [], s => if s.size + 3 ≤ 9223372036854775807 then some (s ++ ⟨#[0, 0, 0]⟩) else none
  | (z, n) :: l, s => (octets_Put.f 100 z n).bind fun t => if t.2 = 0 then (if s.size + t.1.size ≤ 9223372036854775807 then format_bF l (s ++ t.1) else none) else some ⟨#[]⟩
def format_bitI (b : Bool) : Int := if b = true then 1 else 0
def format_Bytes.f (a0_0 : Int) (a0_1 : Int) (a0_2 : Bool) (a0_3 : Bool) (a0_4 : Int) (a0_5 : Int) (a0_6 : Int) (a0_7 : Int) (a0_8 : Int) (a0_9 : Int) : Option ByteArray := format_bF (format_tens a0_0 a0_1 a0_4 a0_5 a0_6 a0_7 a0_8 a0_9 (format_bitI a0_2) (format_bitI a0_3)) ⟨#[]⟩
theorem format_bit_q {P : Program} {n : FuncId} {args : Array Value} {v : Value} {W : World} {x : Nat} (h : Calls P n args (W.drewN x) fun e w' => e = .returned v ∧ Drawn0 (W.drewN x) w') : Calls P n args (W.drewN x) fun e w'' => e = .returned v ∧ ∃ n, w'' = W.drewN n :=
  h.mono fun e w'' ⟨he, nd, hw⟩ => ⟨he, x + nd, by rw [hw, World.drewN_drewN]⟩
set_option maxHeartbeats 4000000 in
set_option maxRecDepth 100000 in
theorem format_Bytes.calls (a0_0 : Int) (a0_1 : Int) (a0_2 : Bool) (a0_3 : Bool) (a0_4 : Int) (a0_5 : Int) (a0_6 : Int) (a0_7 : Int) (a0_8 : Int) (a0_9 : Int) (r : ByteArray) (w : World) (h : format_Bytes.f a0_0 a0_1 a0_2 a0_3 a0_4 a0_5 a0_6 a0_7 a0_8 a0_9 = some r) :
    Calls Try.prog 13 #[.agg #[.int .i64 a0_0, .int .i64 a0_1, .bool a0_2, .bool a0_3, .int .i64 a0_4, .int .i64 a0_5, .int .i64 a0_6, .int .i64 a0_7, .int .i64 a0_8, .int .i64 a0_9]] w fun e w' => e = .returned (.string r) ∧ Below w.heap.size w w' := by
  have HW := Lib.hid (below_alloc (Below.refl w.heap.size w) (.cells #[.int .i64 a0_0, .int .i64 a0_1, .bool a0_2, .bool a0_3, .int .i64 a0_4, .int .i64 a0_5, .int .i64 a0_6, .int .i64 a0_7, .int .i64 a0_8, .int .i64 a0_9] 23))
  have hc2 : format_bit.f a0_2 = some (format_bitI a0_2) := by cases a0_2 <;> rfl
  have hc3 : format_bit.f a0_3 = some (format_bitI a0_3) := by cases a0_3 <;> rfl
  obtain ⟨b2, hb2⟩ : ∃ b, format_bitI a0_2 = b := ⟨_, rfl⟩
  obtain ⟨b3, hb3⟩ : ∃ b, format_bitI a0_3 = b := ⟨_, rfl⟩
  unfold format_Bytes.f at h
  rw [hb2] at h hc2
  rw [hb3] at h hc3
  have H := Lib.hid h
  have HC2 := Lib.hid hc2
  have HC3 := Lib.hid hc3
  clear h hc2 hc3 hb2 hb3
  go_enter Try.func13, Try.ntmps13
  go_wp2_with fail
  have HQ2 := Lib.hid (fun (W : World) (x : Nat) => format_bit_q (format_bit.calls a0_2 b2 (W.drewN x) HC2.out))
  have HQ3 := Lib.hid (fun (W : World) (x : Nat) => format_bit_q (format_bit.calls a0_3 b3 (W.drewN x) HC3.out))
  go_quiet ((first | (go_at_call_of 41 (Value.bool a0_2); exact HQ2.out _ _) | (go_at_call_of 41 (Value.bool a0_3); exact HQ3.out _ _)))
  go_wp2_with fail
  go_loopw [3, 41] (fun v i wr => ∃ (k : Nat) (x : ByteArray), k ≤ 10 ∧ i = .int .i64 k ∧ v = .string x ∧ Hid (format_bF ((format_tens a0_0 a0_1 a0_4 a0_5 a0_6 a0_7 a0_8 a0_9 b2 b3).drop k) x = some r) ∧ Hid (Below w.heap.size w wr)) (fun _ i _ => 10 - (intOf i).toNat)
  case atStart => exact ⟨0, _, by omega, rfl, rfl, H, Lib.hid (pw_below_drewN HW.out _)⟩
  case round =>
    obtain ⟨k, x, hk, rfl, rfl, HO, HY⟩ := hrel
    by_cases hk3 : k < 10
    · have hix := fun wx => format_index10 a0_0 a0_1 a0_4 a0_5 a0_6 a0_7 a0_8 a0_9 b2 b3 k hk3 wx
      have ho := HO.out
      rw [format_tens_at a0_0 a0_1 a0_4 a0_5 a0_6 a0_7 a0_8 a0_9 b2 b3 k hk3] at ho
      obtain ⟨m, hm⟩ : ∃ m, (format_ten a0_0 a0_1 a0_4 a0_5 a0_6 a0_7 a0_8 a0_9 b2 b3 k).1 = m := ⟨_, rfl⟩
      obtain ⟨s, hs⟩ : ∃ s, (format_ten a0_0 a0_1 a0_4 a0_5 a0_6 a0_7 a0_8 a0_9 b2 b3 k).2 = s := ⟨_, rfl⟩
      simp only [hm, hs] at hix
      rw [hm, hs] at ho
      clear hm hs HO
      unfold format_bF at ho
      cases hq : octets_Put.f 100 m s with
      | none => rw [hq] at ho; cases ho
      | some q =>
      obtain ⟨q1, q2⟩ := q
      rw [hq] at ho
      simp only [Option.bind_some] at ho
      have HQ := Lib.hid hq
      have HB4 := Lib.hid (fun w4 (hb : Below (wr.alloc (.cells #[.int .i64 m, .int .i64 s] 57)).heap.size (wr.alloc (.cells #[.int .i64 m, .int .i64 s] 57)) w4) => HY.out.trans (Below.mono ((below_alloc (Below.refl wr.heap.size wr) _).trans (Below.mono hb (by simp))) HY.out.size))
      clear hq HQ2 HQ3
      by_cases h0 : q2 = 0
      · rw [if_pos h0] at ho
        by_cases h1 : x.size + q1.size ≤ 9223372036854775807
        · rw [if_pos h1] at ho
          have HN := Lib.hid ho
          subst h0
          clear ho
          go_wp2_with fail
          refine (octets_Put.calls 100 m s q1 0 _ HQ.out).mono ?_
          rintro e w4 ⟨rfl, hb⟩
          have HB5 := Lib.hid (HB4.out _ hb)
          clear hb hix
          go_wp2_with fail
          go_roundw
          case rel => exact ⟨k + 1, _, by omega, by go_num, rfl, HN, HB5⟩
          case measure => simp [intOf]; omega
        · rw [if_neg h1] at ho; cases ho
      · rw [if_neg h0] at ho
        have HN := Lib.hid (Option.some.inj ho)
        have hb0 : (q2 == 0) = false := by simpa using h0
        have hb1 : (q2 != 0) = true := by simpa using h0
        clear ho h0
        go_wp2_with fail
        refine (octets_Put.calls 100 m s q1 q2 _ HQ.out).mono ?_
        rintro e w4 ⟨rfl, hb⟩
        have HB5 := Lib.hid (HB4.out _ hb)
        clear hb hix
        go_wp2_with fail
        go_ret
        exact ⟨by rw [← HN.out]; rfl, HB5.out⟩
    · obtain rfl : k = 10 := by omega
      have ho : (if x.size + 3 ≤ 9223372036854775807 then some (x ++ ⟨#[0, 0, 0]⟩) else none) = some r := HO.out
      by_cases h1 : x.size + 3 ≤ 9223372036854775807
      · rw [if_pos h1] at ho
        have HN := Lib.hid (Option.some.inj ho)
        have h2 : x.size + (⟨#[0, 0, 0]⟩ : ByteArray).size ≤ 9223372036854775807 := h1
        clear ho HO HQ2 HQ3
        go_wp2_with fail
        go_ret
        exact ⟨by rw [← HN.out]; rfl, HY.out⟩
      · rw [if_neg h1] at ho; cases ho

/-! ### format_Standard: function 15 -/
def format_Standard.f  : Option (Int × Int × Bool × Bool × Int × Int × Int × Int × Int × Int) := some (32, 24, false, true, 255, 255, 255, 16, 8, 0)
set_option maxHeartbeats 8000000 in
set_option maxRecDepth 100000 in
theorem format_Standard.calls  (r1 : Int) (r2 : Int) (r3 : Bool) (r4 : Bool) (r5 : Int) (r6 : Int) (r7 : Int) (r8 : Int) (r9 : Int) (r10 : Int) (w : World) (h : format_Standard.f  = some (r1, r2, r3, r4, r5, r6, r7, r8, r9, r10)) :
    Calls Try.prog 15 #[] w fun e w' => e = .returned (.agg #[.int .i64 r1, .int .i64 r2, .bool r3, .bool r4, .int .i64 r5, .int .i64 r6, .int .i64 r7, .int .i64 r8, .int .i64 r9, .int .i64 r10]) ∧ Below w.heap.size w w' := by
  have hu23 := Try.underlying23
  have HB := Aside0.mk (Below.refl w.heap.size w)
  have H : (some (32, 24, false, true, 255, 255, 255, 16, 8, 0)) = some (r1, r2, r3, r4, r5, r6, r7, r8, r9, r10) := h
  clear h
  simp only [Option.some.injEq, Prod.mk.injEq] at H
  obtain ⟨rfl, rfl, rfl, rfl, rfl, rfl, rfl, rfl, rfl, rfl⟩ := H
  go_enter Try.func15, Try.ntmps15
  go_wp2_with (first | ((with_reducible refine gate_dst (N := 0) rfl ?_); refine box_event ?hg (N := 0) ?hd (cs := #[.int .i64 0, .int .i64 0, .bool false, .bool false, .int .i64 0, .int .i64 0, .int .i64 0, .int .i64 0, .int .i64 0, .int .i64 0]) (t := 23) ?hr ?_; (case hd => rfl); (case hg => rfl); (case hr => first | (go_simp; done) | (go_simp; rfl)); intro gb186 hg w1 hbox hb; have n0_ := Aside0.mk (below_step (by repeat (first | (with_reducible first | exact HB.out | apply below_alloc | apply pw_below_drewN | apply below_drew1) | exact HB.out)) hb); have n1_ := Aside0.mk (hbox); have n2_ := Aside0.mk ((by rw [hg]; exact (below_size (by repeat (first | (with_reducible first | exact HB.out | apply below_alloc | apply pw_below_drewN | apply below_drew1) | exact HB.out))) : w.heap.size ≤ gb186)); have n3_ := Aside0.mk ((by rw [hg]; exact (below_size (by repeat (first | (with_reducible first | exact HB.out | apply below_alloc | apply pw_below_drewN | apply below_drew1) | exact HB.out))) : w.heap.size ≤ gb186)); clear HB; have HB := n0_; have BK186 := n1_; have GW186 := n2_; have GE186 := n3_; clear n0_ n1_ n2_ n3_; clear hb hbox hg; have hcz2_0 : w1.cell? ⟨gb186, 0, none⟩ = some (.int .i64 0) := (blk_cell BK186.out 0).trans rfl; have hcz2_1 : w1.cell? ⟨gb186, 1, none⟩ = some (.int .i64 0) := (blk_cell BK186.out 1).trans rfl; have hcz2_2 : w1.cell? ⟨gb186, 2, none⟩ = some (.bool false) := (blk_cell BK186.out 2).trans rfl; have hcz2_3 : w1.cell? ⟨gb186, 3, none⟩ = some (.bool false) := (blk_cell BK186.out 3).trans rfl; have hcz2_4 : w1.cell? ⟨gb186, 4, none⟩ = some (.int .i64 0) := (blk_cell BK186.out 4).trans rfl; have hcz2_5 : w1.cell? ⟨gb186, 5, none⟩ = some (.int .i64 0) := (blk_cell BK186.out 5).trans rfl; have hcz2_6 : w1.cell? ⟨gb186, 6, none⟩ = some (.int .i64 0) := (blk_cell BK186.out 6).trans rfl; have hcz2_7 : w1.cell? ⟨gb186, 7, none⟩ = some (.int .i64 0) := (blk_cell BK186.out 7).trans rfl; have hcz2_8 : w1.cell? ⟨gb186, 8, none⟩ = some (.int .i64 0) := (blk_cell BK186.out 8).trans rfl; have hcz2_9 : w1.cell? ⟨gb186, 9, none⟩ = some (.int .i64 0) := (blk_cell BK186.out 9).trans rfl; have hfz2_0 := blk_frozen BK186.out 0; have hfz2_1 := blk_frozen BK186.out 1; have hfz2_2 := blk_frozen BK186.out 2; have hfz2_3 := blk_frozen BK186.out 3; have hfz2_4 := blk_frozen BK186.out 4; have hfz2_5 := blk_frozen BK186.out 5; have hfz2_6 := blk_frozen BK186.out 6; have hfz2_7 := blk_frozen BK186.out 7; have hfz2_8 := blk_frozen BK186.out 8; have hfz2_9 := blk_frozen BK186.out 9))
  refine bodyPost_ret (results_cell_row rfl _ _ gb186 23 #[.int .i64 32, .int .i64 24, .bool false, .bool true, .int .i64 255, .int .i64 255, .int .i64 255, .int .i64 16, .int .i64 8, .int .i64 0] (0, 0) _ rfl (by (with_reducible repeat (first | refine blk_drewN ?_ _ | refine blk_drew ?_ | refine blk_alloc ?_ _)); refine blk_put (cs := #[.int .i64 32, .int .i64 24, .bool false, .bool true, .int .i64 255, .int .i64 255, .int .i64 255, .int .i64 16, .int .i64 8, .int .i64 0]) ?_ 9 _ rfl; (with_reducible repeat (first | refine blk_drewN ?_ _ | refine blk_drew ?_ | refine blk_alloc ?_ _)); refine blk_put (cs := #[.int .i64 32, .int .i64 24, .bool false, .bool true, .int .i64 255, .int .i64 255, .int .i64 255, .int .i64 16, .int .i64 0, .int .i64 0]) ?_ 8 _ rfl; (with_reducible repeat (first | refine blk_drewN ?_ _ | refine blk_drew ?_ | refine blk_alloc ?_ _)); refine blk_put (cs := #[.int .i64 32, .int .i64 24, .bool false, .bool true, .int .i64 255, .int .i64 255, .int .i64 255, .int .i64 0, .int .i64 0, .int .i64 0]) ?_ 7 _ rfl; (with_reducible repeat (first | refine blk_drewN ?_ _ | refine blk_drew ?_ | refine blk_alloc ?_ _)); refine blk_put (cs := #[.int .i64 32, .int .i64 24, .bool false, .bool true, .int .i64 255, .int .i64 255, .int .i64 0, .int .i64 0, .int .i64 0, .int .i64 0]) ?_ 6 _ rfl; (with_reducible repeat (first | refine blk_drewN ?_ _ | refine blk_drew ?_ | refine blk_alloc ?_ _)); refine blk_put (cs := #[.int .i64 32, .int .i64 24, .bool false, .bool true, .int .i64 255, .int .i64 0, .int .i64 0, .int .i64 0, .int .i64 0, .int .i64 0]) ?_ 5 _ rfl; (with_reducible repeat (first | refine blk_drewN ?_ _ | refine blk_drew ?_ | refine blk_alloc ?_ _)); refine blk_put (cs := #[.int .i64 32, .int .i64 24, .bool false, .bool true, .int .i64 0, .int .i64 0, .int .i64 0, .int .i64 0, .int .i64 0, .int .i64 0]) ?_ 4 _ rfl; (with_reducible repeat (first | refine blk_drewN ?_ _ | refine blk_drew ?_ | refine blk_alloc ?_ _)); refine blk_put (cs := #[.int .i64 32, .int .i64 24, .bool false, .bool false, .int .i64 0, .int .i64 0, .int .i64 0, .int .i64 0, .int .i64 0, .int .i64 0]) ?_ 3 _ rfl; (with_reducible repeat (first | refine blk_drewN ?_ _ | refine blk_drew ?_ | refine blk_alloc ?_ _)); refine blk_put (cs := #[.int .i64 32, .int .i64 24, .bool false, .bool false, .int .i64 0, .int .i64 0, .int .i64 0, .int .i64 0, .int .i64 0, .int .i64 0]) ?_ 2 _ rfl; (with_reducible repeat (first | refine blk_drewN ?_ _ | refine blk_drew ?_ | refine blk_alloc ?_ _)); refine blk_put (cs := #[.int .i64 32, .int .i64 0, .bool false, .bool false, .int .i64 0, .int .i64 0, .int .i64 0, .int .i64 0, .int .i64 0, .int .i64 0]) ?_ 1 _ rfl; (with_reducible repeat (first | refine blk_drewN ?_ _ | refine blk_drew ?_ | refine blk_alloc ?_ _)); refine blk_put (cs := #[.int .i64 0, .int .i64 0, .bool false, .bool false, .int .i64 0, .int .i64 0, .int .i64 0, .int .i64 0, .int .i64 0, .int .i64 0]) ?_ 0 _ rfl; (with_reducible repeat (first | refine blk_drewN ?_ _ | refine blk_drew ?_ | refine blk_alloc ?_ _)); exact BK186.out) Try.underlying23 rfl (by kernel_rfl)) rfl ?_
  exact ⟨by first | rfl | (simp [errW_none, errW_some] <;> rfl) | (simp [*, errW_none, errW_some] <;> rfl), by repeat (first | (with_reducible first | exact HB.out | apply below_alloc | apply pw_below_drewN | apply below_drew1 | refine below_set ?_ GE186.out) | exact HB.out)⟩

/-! ### format_Colour: function 18 -/
/-- What the parts l add to v: a value's colour. -/
def format_cF (c : Int) : List (Int × Int) → Int → Option Int
  | [], v => some v
  | (m, s) :: l, v => if 0 ≤ s then if m = 0 then none else format_cF c l (Go.bits .or .i64 (wrap64 (v * 256)) (wrap64 (Int.tdiv (wrap64 ((wrap64 ((Go.bits .and .i64 (c / 2 ^ min s.toNat 64) m) * 255)) + (wrap64 (Int.tdiv m 2)))) m))) else none
def format_Colour.f (a0_0 : Int) (a0_1 : Int) (a0_2 : Bool) (a0_3 : Bool) (a0_4 : Int) (a0_5 : Int) (a0_6 : Int) (a0_7 : Int) (a0_8 : Int) (a0_9 : Int) (a1 : Int) : Option Int :=
  (format_Valid.f a0_0 a0_1 a0_2 a0_3 a0_4 a0_5 a0_6 a0_7 a0_8 a0_9).bind fun b => if b = true then format_cF a1 [(a0_4, a0_7), (a0_5, a0_8), (a0_6, a0_9)] 0 else some 0
set_option maxHeartbeats 2000000 in
set_option maxRecDepth 100000 in
theorem format_Colour.calls (a0_0 : Int) (a0_1 : Int) (a0_2 : Bool) (a0_3 : Bool) (a0_4 : Int) (a0_5 : Int) (a0_6 : Int) (a0_7 : Int) (a0_8 : Int) (a0_9 : Int) (a1 : Int) (r : Int) (w : World) (h : format_Colour.f a0_0 a0_1 a0_2 a0_3 a0_4 a0_5 a0_6 a0_7 a0_8 a0_9 a1 = some r) :
    Calls Try.prog 18 #[.agg #[.int .i64 a0_0, .int .i64 a0_1, .bool a0_2, .bool a0_3, .int .i64 a0_4, .int .i64 a0_5, .int .i64 a0_6, .int .i64 a0_7, .int .i64 a0_8, .int .i64 a0_9], .int .i64 a1] w fun e w' => e = .returned (.int .i64 r) ∧ Below w.heap.size w w' := by
  unfold format_Colour.f at h
  cases hv : format_Valid.f a0_0 a0_1 a0_2 a0_3 a0_4 a0_5 a0_6 a0_7 a0_8 a0_9 with
  | none => rw [hv] at h; cases h
  | some b =>
    rw [hv] at h
    simp only [Option.bind_some] at h
    have HV := Lib.hid hv
    have HW := Lib.hid (below_alloc (Below.refl w.heap.size w) (.cells #[.int .i64 a0_0, .int .i64 a0_1, .bool a0_2, .bool a0_3, .int .i64 a0_4, .int .i64 a0_5, .int .i64 a0_6, .int .i64 a0_7, .int .i64 a0_8, .int .i64 a0_9] 23))
    have HG := Lib.hid (heap_alloc_new w (.cells #[.int .i64 a0_0, .int .i64 a0_1, .bool a0_2, .bool a0_3, .int .i64 a0_4, .int .i64 a0_5, .int .i64 a0_6, .int .i64 a0_7, .int .i64 a0_8, .int .i64 a0_9] 23))
    clear hv
    cases b with
    | false =>
      rw [if_neg (by decide)] at h
      obtain rfl := Option.some.inj h
      clear h
      go_enter Try.func18, Try.ntmps18
      go_wp2_with fail
      refine (format_Valid.calls _ _ _ _ _ _ _ _ _ _ false _ HV.out).mono ?_
      rintro e w1 ⟨rfl, hb⟩
      have HB := Lib.hid (HW.out.trans (Below.mono hb (by simp)))
      clear hb
      go_wp2_with fail
      go_ret
      exact ⟨rfl, HB.out⟩
    | true =>
      rw [if_pos rfl] at h
      have H := Lib.hid (show format_cF a1 (format_rest a0_4 a0_5 a0_6 a0_7 a0_8 a0_9 0) 0 = some r from h)
      clear h
      go_enter Try.func18, Try.ntmps18
      go_wp2_with fail
      refine (format_Valid.calls _ _ _ _ _ _ _ _ _ _ true _ HV.out).mono ?_
      rintro e w1 ⟨rfl, hb⟩
      have HB := Lib.hid (HW.out.trans (Below.mono hb (by simp)))
      have hg := (hb.block w.heap.size (by simp)).trans HG.out
      have q0 : w1.cell? ⟨w.heap.size, 0, none⟩ = some (.int .i64 a0_0) := by rw [World.cell?, hg]; rfl
      have q1 : w1.cell? ⟨w.heap.size, 1, none⟩ = some (.int .i64 a0_1) := by rw [World.cell?, hg]; rfl
      have q2 : w1.cell? ⟨w.heap.size, 2, none⟩ = some (.bool a0_2) := by rw [World.cell?, hg]; rfl
      have q3 : w1.cell? ⟨w.heap.size, 3, none⟩ = some (.bool a0_3) := by rw [World.cell?, hg]; rfl
      have q4 : w1.cell? ⟨w.heap.size, 4, none⟩ = some (.int .i64 a0_4) := by rw [World.cell?, hg]; rfl
      have q5 : w1.cell? ⟨w.heap.size, 5, none⟩ = some (.int .i64 a0_5) := by rw [World.cell?, hg]; rfl
      have q6 : w1.cell? ⟨w.heap.size, 6, none⟩ = some (.int .i64 a0_6) := by rw [World.cell?, hg]; rfl
      have q7 : w1.cell? ⟨w.heap.size, 7, none⟩ = some (.int .i64 a0_7) := by rw [World.cell?, hg]; rfl
      have q8 : w1.cell? ⟨w.heap.size, 8, none⟩ = some (.int .i64 a0_8) := by rw [World.cell?, hg]; rfl
      have q9 : w1.cell? ⟨w.heap.size, 9, none⟩ = some (.int .i64 a0_9) := by rw [World.cell?, hg]; rfl
      clear hb hg
      go_wp2_with fail
      refine (format_parts_c _ _ _ _ _ _ _ _ _ _ _).mono ?_
      rintro e w2 ⟨rfl, hb⟩
      have HB2 := Lib.hid (HB.out.trans (Below.mono hb HB.out.size))
      clear hb q0 q1 q2 q3 q4 q5 q6 q7 q8 q9
      go_wp2_with fail
      go_loopw [5, 14] (fun v i wr => ∃ (k : Nat) (x : Int), k ≤ 3 ∧ i = .int .i64 k ∧ v = .int .i64 x ∧ Hid (format_cF a1 (format_rest a0_4 a0_5 a0_6 a0_7 a0_8 a0_9 k) x = some r) ∧ Hid (Below w.heap.size w wr)) (fun _ i _ => 3 - (intOf i).toNat)
      case atStart => exact ⟨0, 0, by omega, rfl, rfl, H, HB2⟩
      case round =>
        obtain ⟨k, x, hk, rfl, rfl, HO, HY⟩ := hrel
        by_cases hk3 : k < 3
        · have hix := fun wx => format_index a0_4 a0_5 a0_6 a0_7 a0_8 a0_9 k hk3 wx
          have ho := HO.out
          rw [format_rest_at _ _ _ _ _ _ k hk3] at ho
          obtain ⟨m, hm⟩ : ∃ m, (format_pm a0_4 a0_5 a0_6 a0_7 a0_8 a0_9 k).1 = m := ⟨_, rfl⟩
          obtain ⟨s, hs⟩ : ∃ s, (format_pm a0_4 a0_5 a0_6 a0_7 a0_8 a0_9 k).2 = s := ⟨_, rfl⟩
          simp only [hm, hs] at hix
          rw [hm, hs] at ho
          clear hm hs HO
          unfold format_cF at ho
          have hs0 : 0 ≤ s := by
            rcases Int.lt_or_le s 0 with h | h
            · rw [if_neg (by omega)] at ho; cases ho
            · exact h
          rw [if_pos hs0] at ho
          have hm0 : m ≠ 0 := by
            intro h
            rw [if_pos h] at ho; cases ho
          rw [if_neg hm0] at ho
          have hmb : (m == 0) = false := by simpa using hm0
          have HN := Lib.hid ho
          clear ho
          go_wp2_with fail
          go_quiet (fail)
          go_wp2_with fail
          go_roundw
          case rel => exact ⟨k + 1, _, by omega, by go_num, rfl, HN, Lib.hid (pw_below_drewN (below_alloc HY.out _) _)⟩
          case measure => simp [intOf]; omega
        · obtain rfl : k = 3 := by omega
          have ho := HO.out
          obtain rfl : x = r := Option.some.inj ho
          clear ho HO
          go_wp2_with fail
          go_ret
          exact ⟨rfl, HY.out⟩

/-! ### format_Value: function 19 -/
/-- What the parts l add to v: a colour's value; k: the first part's number. -/
def format_vF (c : Int) : List (Int × Int) → Nat → Int → Option Int
  | [], _, v => some v
  | (m, s) :: l, k, v => if 0 ≤ s then format_vF c l (k + 1) (Go.bits .or .i64 v (wrap64 (wrap64 (Int.tdiv (wrap64 ((wrap64 ((Go.bits .and .i64 (c / 2 ^ (8 * (2 - k))) 255) * m)) + 127)) 255) * 2 ^ min s.toNat 64))) else none
def format_Value.f (a0_0 : Int) (a0_1 : Int) (a0_2 : Bool) (a0_3 : Bool) (a0_4 : Int) (a0_5 : Int) (a0_6 : Int) (a0_7 : Int) (a0_8 : Int) (a0_9 : Int) (a1 : Int) : Option Int :=
  (format_Valid.f a0_0 a0_1 a0_2 a0_3 a0_4 a0_5 a0_6 a0_7 a0_8 a0_9).bind fun b => if b = true then format_vF a1 [(a0_4, a0_7), (a0_5, a0_8), (a0_6, a0_9)] 0 0 else some 0
set_option maxHeartbeats 2000000 in
set_option maxRecDepth 100000 in
theorem format_Value.calls (a0_0 : Int) (a0_1 : Int) (a0_2 : Bool) (a0_3 : Bool) (a0_4 : Int) (a0_5 : Int) (a0_6 : Int) (a0_7 : Int) (a0_8 : Int) (a0_9 : Int) (a1 : Int) (r : Int) (w : World) (h : format_Value.f a0_0 a0_1 a0_2 a0_3 a0_4 a0_5 a0_6 a0_7 a0_8 a0_9 a1 = some r) :
    Calls Try.prog 19 #[.agg #[.int .i64 a0_0, .int .i64 a0_1, .bool a0_2, .bool a0_3, .int .i64 a0_4, .int .i64 a0_5, .int .i64 a0_6, .int .i64 a0_7, .int .i64 a0_8, .int .i64 a0_9], .int .i64 a1] w fun e w' => e = .returned (.int .i64 r) ∧ Below w.heap.size w w' := by
  unfold format_Value.f at h
  cases hv : format_Valid.f a0_0 a0_1 a0_2 a0_3 a0_4 a0_5 a0_6 a0_7 a0_8 a0_9 with
  | none => rw [hv] at h; cases h
  | some b =>
    rw [hv] at h
    simp only [Option.bind_some] at h
    have HV := Lib.hid hv
    have HW := Lib.hid (below_alloc (Below.refl w.heap.size w) (.cells #[.int .i64 a0_0, .int .i64 a0_1, .bool a0_2, .bool a0_3, .int .i64 a0_4, .int .i64 a0_5, .int .i64 a0_6, .int .i64 a0_7, .int .i64 a0_8, .int .i64 a0_9] 23))
    have HG := Lib.hid (heap_alloc_new w (.cells #[.int .i64 a0_0, .int .i64 a0_1, .bool a0_2, .bool a0_3, .int .i64 a0_4, .int .i64 a0_5, .int .i64 a0_6, .int .i64 a0_7, .int .i64 a0_8, .int .i64 a0_9] 23))
    clear hv
    cases b with
    | false =>
      rw [if_neg (by decide)] at h
      obtain rfl := Option.some.inj h
      clear h
      go_enter Try.func19, Try.ntmps19
      go_wp2_with fail
      refine (format_Valid.calls _ _ _ _ _ _ _ _ _ _ false _ HV.out).mono ?_
      rintro e w1 ⟨rfl, hb⟩
      have HB := Lib.hid (HW.out.trans (Below.mono hb (by simp)))
      clear hb
      go_wp2_with fail
      go_ret
      exact ⟨rfl, HB.out⟩
    | true =>
      rw [if_pos rfl] at h
      have H := Lib.hid (show format_vF a1 (format_rest a0_4 a0_5 a0_6 a0_7 a0_8 a0_9 0) 0 0 = some r from h)
      clear h
      go_enter Try.func19, Try.ntmps19
      go_wp2_with fail
      refine (format_Valid.calls _ _ _ _ _ _ _ _ _ _ true _ HV.out).mono ?_
      rintro e w1 ⟨rfl, hb⟩
      have HB := Lib.hid (HW.out.trans (Below.mono hb (by simp)))
      have hg := (hb.block w.heap.size (by simp)).trans HG.out
      have q0 : w1.cell? ⟨w.heap.size, 0, none⟩ = some (.int .i64 a0_0) := by rw [World.cell?, hg]; rfl
      have q1 : w1.cell? ⟨w.heap.size, 1, none⟩ = some (.int .i64 a0_1) := by rw [World.cell?, hg]; rfl
      have q2 : w1.cell? ⟨w.heap.size, 2, none⟩ = some (.bool a0_2) := by rw [World.cell?, hg]; rfl
      have q3 : w1.cell? ⟨w.heap.size, 3, none⟩ = some (.bool a0_3) := by rw [World.cell?, hg]; rfl
      have q4 : w1.cell? ⟨w.heap.size, 4, none⟩ = some (.int .i64 a0_4) := by rw [World.cell?, hg]; rfl
      have q5 : w1.cell? ⟨w.heap.size, 5, none⟩ = some (.int .i64 a0_5) := by rw [World.cell?, hg]; rfl
      have q6 : w1.cell? ⟨w.heap.size, 6, none⟩ = some (.int .i64 a0_6) := by rw [World.cell?, hg]; rfl
      have q7 : w1.cell? ⟨w.heap.size, 7, none⟩ = some (.int .i64 a0_7) := by rw [World.cell?, hg]; rfl
      have q8 : w1.cell? ⟨w.heap.size, 8, none⟩ = some (.int .i64 a0_8) := by rw [World.cell?, hg]; rfl
      have q9 : w1.cell? ⟨w.heap.size, 9, none⟩ = some (.int .i64 a0_9) := by rw [World.cell?, hg]; rfl
      clear hb hg
      go_wp2_with fail
      refine (format_parts_c _ _ _ _ _ _ _ _ _ _ _).mono ?_
      rintro e w2 ⟨rfl, hb⟩
      have HB2 := Lib.hid (HB.out.trans (Below.mono hb HB.out.size))
      clear hb q0 q1 q2 q3 q4 q5 q6 q7 q8 q9
      go_wp2_with fail
      go_loopw [5, 14] (fun v i wr => ∃ (k : Nat) (x : Int), k ≤ 3 ∧ i = .int .i64 k ∧ v = .int .i64 x ∧ Hid (format_vF a1 (format_rest a0_4 a0_5 a0_6 a0_7 a0_8 a0_9 k) k x = some r) ∧ Hid (Below w.heap.size w wr)) (fun _ i _ => 3 - (intOf i).toNat)
      case atStart => exact ⟨0, 0, by omega, rfl, rfl, H, HB2⟩
      case round =>
        obtain ⟨k, x, hk, rfl, rfl, HO, HY⟩ := hrel
        by_cases hk3 : k < 3
        · have hix := fun wx => format_index a0_4 a0_5 a0_6 a0_7 a0_8 a0_9 k hk3 wx
          have ho := HO.out
          rw [format_rest_at _ _ _ _ _ _ k hk3] at ho
          obtain ⟨m, hm⟩ : ∃ m, (format_pm a0_4 a0_5 a0_6 a0_7 a0_8 a0_9 k).1 = m := ⟨_, rfl⟩
          obtain ⟨s, hs⟩ : ∃ s, (format_pm a0_4 a0_5 a0_6 a0_7 a0_8 a0_9 k).2 = s := ⟨_, rfl⟩
          simp only [hm, hs] at hix
          rw [hm, hs] at ho
          clear hm hs HO
          unfold format_vF at ho
          have hs0 : 0 ≤ s := by
            rcases Int.lt_or_le s 0 with h | h
            · rw [if_neg (by omega)] at ho; cases ho
            · exact h
          rw [if_pos hs0] at ho
          have HN := Lib.hid ho
          clear ho
          go_wp2_with fail
          go_roundw
          case rel => exact ⟨k + 1, _, by omega, by go_num, rfl, HN, Lib.hid (below_alloc HY.out _)⟩
          case measure => simp [intOf]; omega
        · obtain rfl : k = 3 := by omega
          have ho := HO.out
          obtain rfl : x = r := Option.some.inj ho
          clear ho HO
          go_wp2_with fail
          go_ret
          exact ⟨rfl, HY.out⟩

/-! ### format_Quant: function 17 -/
def format_Quant.f (a0_0 : Int) (a0_1 : Int) (a0_2 : Bool) (a0_3 : Bool) (a0_4 : Int) (a0_5 : Int) (a0_6 : Int) (a0_7 : Int) (a0_8 : Int) (a0_9 : Int) (a1 : Int) : Option (Int) := (format_Value.f a0_0 a0_1 a0_2 a0_3 a0_4 a0_5 a0_6 a0_7 a0_8 a0_9 a1).bind fun t188 => ((format_Colour.f a0_0 a0_1 a0_2 a0_3 a0_4 a0_5 a0_6 a0_7 a0_8 a0_9 t188).bind fun t189 => (some t189))
set_option maxHeartbeats 8000000 in
set_option maxRecDepth 100000 in
theorem format_Quant.calls (a0_0 : Int) (a0_1 : Int) (a0_2 : Bool) (a0_3 : Bool) (a0_4 : Int) (a0_5 : Int) (a0_6 : Int) (a0_7 : Int) (a0_8 : Int) (a0_9 : Int) (a1 : Int) (r : Int) (w : World) (h : format_Quant.f a0_0 a0_1 a0_2 a0_3 a0_4 a0_5 a0_6 a0_7 a0_8 a0_9 a1 = some r) :
    Calls Try.prog 17 #[.agg #[.int .i64 a0_0, .int .i64 a0_1, .bool a0_2, .bool a0_3, .int .i64 a0_4, .int .i64 a0_5, .int .i64 a0_6, .int .i64 a0_7, .int .i64 a0_8, .int .i64 a0_9], .int .i64 a1] w fun e w' => e = .returned (.int .i64 r) ∧ Below w.heap.size w w' := by
  have hu23 := Try.underlying23
  have HB := Aside0.mk (Below.refl w.heap.size w)
  have H : ((format_Value.f a0_0 a0_1 a0_2 a0_3 a0_4 a0_5 a0_6 a0_7 a0_8 a0_9 a1).bind fun t188 => ((format_Colour.f a0_0 a0_1 a0_2 a0_3 a0_4 a0_5 a0_6 a0_7 a0_8 a0_9 t188).bind fun t189 => (some t189))) = some r := h
  clear h
  replace H := Option.bind_eq_some_iff.mp H
  obtain ⟨t188, A30, H⟩ := H
  replace H : ((format_Colour.f a0_0 a0_1 a0_2 a0_3 a0_4 a0_5 a0_6 a0_7 a0_8 a0_9 t188).bind fun t189 => (some t189)) = some r := H
  have A3 := Aside0.mk A30
  clear A30
  replace H := Option.bind_eq_some_iff.mp H
  obtain ⟨t189, A40, H⟩ := H
  replace H : (some t189) = some r := H
  have A4 := Aside0.mk A40
  clear A40
  obtain rfl := Option.some.inj H
  go_enter Try.func17, Try.ntmps17
  try go_wp2_with (first | ((with_reducible refine gate_dst (N := 2) rfl ?_); refine box_event ?hg (N := 2) ?hd (cs := #[.int .i64 a0_0, .int .i64 a0_1, .bool a0_2, .bool a0_3, .int .i64 a0_4, .int .i64 a0_5, .int .i64 a0_6, .int .i64 a0_7, .int .i64 a0_8, .int .i64 a0_9]) (t := 23) ?hr ?_; (case hd => rfl); (case hg => rfl); (case hr => first | (go_simp; done) | (go_simp; rfl)); intro gb187 hg w5 hbox hb; have n0_ := Aside0.mk (below_step (by repeat (first | (with_reducible first | exact HB.out | apply below_alloc | apply pw_below_drewN | apply below_drew1) | exact HB.out)) hb); have n1_ := Aside0.mk (hbox); have n2_ := Aside0.mk ((by rw [hg]; exact (below_size (by repeat (first | (with_reducible first | exact HB.out | apply below_alloc | apply pw_below_drewN | apply below_drew1) | exact HB.out))) : w.heap.size ≤ gb187)); have n3_ := Aside0.mk ((by rw [hg]; exact (below_size (by repeat (first | (with_reducible first | exact HB.out | apply below_alloc | apply pw_below_drewN | apply below_drew1) | exact HB.out))) : w.heap.size ≤ gb187)); clear HB; have HB := n0_; have BK187 := n1_; have GW187 := n2_; have GE187 := n3_; clear n0_ n1_ n2_ n3_; clear hb hbox hg))
  have n0_ := Aside0.mk (blk_drew BK187.out)
  have n1_ := Aside0.mk (below_drew1 HB.out)
  clear BK187
  clear HB
  have BK187 := n0_
  have HB := n1_
  clear n0_ n1_
  refine start_ (n := 6) (S := fun w' => w'.cell? ⟨gb187, 0, none⟩ = some (.int .i64 a0_0) ∧ w'.cell? ⟨gb187, 1, none⟩ = some (.int .i64 a0_1) ∧ w'.cell? ⟨gb187, 2, none⟩ = some (.bool a0_2) ∧ w'.cell? ⟨gb187, 3, none⟩ = some (.bool a0_3) ∧ w'.cell? ⟨gb187, 4, none⟩ = some (.int .i64 a0_4) ∧ w'.cell? ⟨gb187, 5, none⟩ = some (.int .i64 a0_5) ∧ w'.cell? ⟨gb187, 6, none⟩ = some (.int .i64 a0_6) ∧ w'.cell? ⟨gb187, 7, none⟩ = some (.int .i64 a0_7) ∧ w'.cell? ⟨gb187, 8, none⟩ = some (.int .i64 a0_8) ∧ w'.cell? ⟨gb187, 9, none⟩ = some (.int .i64 a0_9)) (ds := []) #[false, false, false, false, false, false] (by kernel_rfl) rfl rfl ⟨(blk_cell BK187.out 0).trans rfl, (blk_cell BK187.out 1).trans rfl, (blk_cell BK187.out 2).trans rfl, (blk_cell BK187.out 3).trans rfl, (blk_cell BK187.out 4).trans rfl, (blk_cell BK187.out 5).trans rfl, (blk_cell BK187.out 6).trans rfl, (blk_cell BK187.out 7).trans rfl, (blk_cell BK187.out 8).trans rfl, (blk_cell BK187.out 9).trans rfl⟩ (fun hHeld => ?_)
  generalize w5.drew = w6 at BK187 HB hHeld ⊢
  refine pure_ (i := 2) (N := some 7) (v := ?_) (a' := ?_) #[false, false, true, false, false, false] rfl rfl (by kernel_rfl) (fun _ _ _ h => h) (Or.inl ⟨by rfl, ?_⟩) ?_ ?_
  rotate_left
  · intro w'
    go_simp
    with_reducible rfl
  rotate_left
  · simp only [Act.put, List.setIfInBounds_toArray, List.set_cons_zero, List.set_cons_succ, i64_w, i32_w]
    rfl
  refine take_ (i := 0) (N := some 5) (v := ?_) (a' := ?_) #[true, false, true, false, false, false] rfl rfl (by kernel_rfl) (fun _ _ _ h => h) (Or.inl ⟨by rfl, ?_⟩) hHeld ?_ ?_
  rotate_left
  · rintro w' ⟨s0, s1, s2, s3, s4, s5, s6, s7, s8, s9⟩
    go_simp
    with_reducible rfl
  rotate_left
  · simp only [Act.put, List.setIfInBounds_toArray, List.set_cons_zero, List.set_cons_succ, i64_w, i32_w]
    rfl
  refine take_ (i := 1) (N := some 6) (v := ?_) (a' := ?_) #[true, true, true, false, false, false] rfl rfl (by kernel_rfl) (fun _ _ _ h => h) (Or.inl ⟨by rfl, ?_⟩) hHeld ?_ ?_
  rotate_left
  · rintro w' ⟨s0, s1, s2, s3, s4, s5, s6, s7, s8, s9⟩
    go_simp
    with_reducible rfl
  rotate_left
  · simp only [Act.put, List.setIfInBounds_toArray, List.set_cons_zero, List.set_cons_succ, i64_w, i32_w]
    rfl
  refine one_ (i := 3) (N := some 8) #[true, true, true, true, false, false] rfl rfl (by kernel_rfl) (by decide) (fun K hK => ?_)
  refine goes_ Try.func19 (by kernel_rfl) rfl #[.agg #[.int .i64 a0_0, .int .i64 a0_1, .bool a0_2, .bool a0_3, .int .i64 a0_4, .int .i64 a0_5, .int .i64 a0_6, .int .i64 a0_7, .int .i64 a0_8, .int .i64 a0_9], .int .i64 a1] (by rfl) rfl rfl (by (try simp only [List.map_toArray, List.map_cons, List.map_nil]); first | done | rfl | (simp only [List.length_drop, List.length_take]; rfl)) ?_
  with_reducible refine (format_Value.calls a0_0 a0_1 a0_2 a0_3 a0_4 a0_5 a0_6 a0_7 a0_8 a0_9 a1 t188 _ A3.out).mono ?_
  rintro e w7 ⟨rfl, hb⟩
  refine ⟨_, rfl, ?_⟩
  have n0_ := Aside0.mk (blk_below (g := gb187) (o := .cells #[.int .i64 a0_0, .int .i64 a0_1, .bool a0_2, .bool a0_3, .int .i64 a0_4, .int .i64 a0_5, .int .i64 a0_6, .int .i64 a0_7, .int .i64 a0_8, .int .i64 a0_9] 23 (0, 0)) (by (with_reducible repeat (first | refine blk_drewN ?_ _ | refine blk_drew ?_ | refine blk_alloc ?_ _)); exact BK187.out) hb)
  have n1_ := Aside0.mk (below_step (by repeat (first | (with_reducible first | exact HB.out | apply below_alloc | apply pw_below_drewN | apply below_drew1 | refine below_set ?_ GE187.out) | exact HB.out)) hb)
  clear BK187
  clear HB
  have BK187 := n0_
  have HB := n1_
  clear n0_ n1_
  (try clear hb)
  (try clear hb2)
  (try clear hk)
  (try clear hi)
  refine hK.out _ _ ⟨(blk_cell BK187.out 0).trans rfl, (blk_cell BK187.out 1).trans rfl, (blk_cell BK187.out 2).trans rfl, (blk_cell BK187.out 3).trans rfl, (blk_cell BK187.out 4).trans rfl, (blk_cell BK187.out 5).trans rfl, (blk_cell BK187.out 6).trans rfl, (blk_cell BK187.out 7).trans rfl, (blk_cell BK187.out 8).trans rfl, (blk_cell BK187.out 9).trans rfl⟩ (fun hHeld => ?_)
  clear hK K
  refine norm_ (a' := ?_) ?_ ?_
  rotate_left
  · show Act.put _ (some 8) _ = _
    simp only [Act.put, List.setIfInBounds_toArray, List.set_cons_zero, List.set_cons_succ, i64_w, i32_w]
    rfl
  refine one_ (i := 4) (N := some 9) #[true, true, true, true, true, false] rfl rfl (by kernel_rfl) (by decide) (fun K hK => ?_)
  refine goes_ Try.func18 (by kernel_rfl) rfl #[.agg #[.int .i64 a0_0, .int .i64 a0_1, .bool a0_2, .bool a0_3, .int .i64 a0_4, .int .i64 a0_5, .int .i64 a0_6, .int .i64 a0_7, .int .i64 a0_8, .int .i64 a0_9], .int .i64 t188] (by rfl) rfl rfl (by (try simp only [List.map_toArray, List.map_cons, List.map_nil]); first | done | rfl | (simp only [List.length_drop, List.length_take]; rfl)) ?_
  with_reducible refine (format_Colour.calls a0_0 a0_1 a0_2 a0_3 a0_4 a0_5 a0_6 a0_7 a0_8 a0_9 t188 t189 _ A4.out).mono ?_
  rintro e w8 ⟨rfl, hb⟩
  refine ⟨_, rfl, ?_⟩
  have n0_ := Aside0.mk (blk_below (g := gb187) (o := .cells #[.int .i64 a0_0, .int .i64 a0_1, .bool a0_2, .bool a0_3, .int .i64 a0_4, .int .i64 a0_5, .int .i64 a0_6, .int .i64 a0_7, .int .i64 a0_8, .int .i64 a0_9] 23 (0, 0)) (by (with_reducible repeat (first | refine blk_drewN ?_ _ | refine blk_drew ?_ | refine blk_alloc ?_ _)); exact BK187.out) hb)
  have n1_ := Aside0.mk (below_step (by repeat (first | (with_reducible first | exact HB.out | apply below_alloc | apply pw_below_drewN | apply below_drew1 | refine below_set ?_ GE187.out) | exact HB.out)) hb)
  clear BK187
  clear HB
  have BK187 := n0_
  have HB := n1_
  clear n0_ n1_
  (try clear hb)
  (try clear hb2)
  (try clear hk)
  (try clear hi)
  refine hK.out _ _ ⟨(blk_cell BK187.out 0).trans rfl, (blk_cell BK187.out 1).trans rfl, (blk_cell BK187.out 2).trans rfl, (blk_cell BK187.out 3).trans rfl, (blk_cell BK187.out 4).trans rfl, (blk_cell BK187.out 5).trans rfl, (blk_cell BK187.out 6).trans rfl, (blk_cell BK187.out 7).trans rfl, (blk_cell BK187.out 8).trans rfl, (blk_cell BK187.out 9).trans rfl⟩ (fun hHeld => ?_)
  clear hK K
  refine norm_ (a' := ?_) ?_ ?_
  rotate_left
  · show Act.put _ (some 9) _ = _
    simp only [Act.put, List.setIfInBounds_toArray, List.set_cons_zero, List.set_cons_succ, i64_w, i32_w]
    rfl
  refine pure_ (i := 5) (N := some 4) (v := ?_) (a' := ?_) #[true, true, true, true, true, true] rfl rfl (by kernel_rfl) (fun _ _ _ h => h) (Or.inl ⟨by rfl, ?_⟩) ?_ ?_
  rotate_left
  · intro w'
    go_simp
    with_reducible rfl
  rotate_left
  · simp only [Act.put, List.setIfInBounds_toArray, List.set_cons_zero, List.set_cons_succ, i64_w, i32_w]
    rfl
  refine done_ (by kernel_rfl) ?_
  try go_wp2
  go_ret
  exact ⟨by first | rfl | (simp [errW_none, errW_some] <;> rfl) | (simp [*, errW_none, errW_some] <;> rfl), by repeat (first | (with_reducible first | exact HB.out | apply below_alloc | apply pw_below_drewN | apply below_drew1 | refine below_set ?_ GE187.out) | exact HB.out)⟩

/-! ### miradorlaw13_high: function 30 -/
def miradorlaw13_high.f  : Option (Int × Int × Bool × Bool × Int × Int × Int × Int × Int × Int) := some (16, 16, false, true, 31, 63, 31, 11, 5, 0)
set_option maxHeartbeats 8000000 in
set_option maxRecDepth 100000 in
theorem miradorlaw13_high.calls  (r1 : Int) (r2 : Int) (r3 : Bool) (r4 : Bool) (r5 : Int) (r6 : Int) (r7 : Int) (r8 : Int) (r9 : Int) (r10 : Int) (w : World) (h : miradorlaw13_high.f  = some (r1, r2, r3, r4, r5, r6, r7, r8, r9, r10)) :
    Calls Try.prog 30 #[] w fun e w' => e = .returned (.agg #[.int .i64 r1, .int .i64 r2, .bool r3, .bool r4, .int .i64 r5, .int .i64 r6, .int .i64 r7, .int .i64 r8, .int .i64 r9, .int .i64 r10]) ∧ Below w.heap.size w w' := by
  have hu23 := Try.underlying23
  have HB := Aside0.mk (Below.refl w.heap.size w)
  have H : (some (16, 16, false, true, 31, 63, 31, 11, 5, 0)) = some (r1, r2, r3, r4, r5, r6, r7, r8, r9, r10) := h
  clear h
  simp only [Option.some.injEq, Prod.mk.injEq] at H
  obtain ⟨rfl, rfl, rfl, rfl, rfl, rfl, rfl, rfl, rfl, rfl⟩ := H
  go_enter Try.func30, Try.ntmps30
  go_wp2_with (first | ((with_reducible refine gate_dst (N := 0) rfl ?_); refine box_event ?hg (N := 0) ?hd (cs := #[.int .i64 0, .int .i64 0, .bool false, .bool false, .int .i64 0, .int .i64 0, .int .i64 0, .int .i64 0, .int .i64 0, .int .i64 0]) (t := 23) ?hr ?_; (case hd => rfl); (case hg => rfl); (case hr => first | (go_simp; done) | (go_simp; rfl)); intro gb190 hg w1 hbox hb; have n0_ := Aside0.mk (below_step (by repeat (first | (with_reducible first | exact HB.out | apply below_alloc | apply pw_below_drewN | apply below_drew1) | exact HB.out)) hb); have n1_ := Aside0.mk (hbox); have n2_ := Aside0.mk ((by rw [hg]; exact (below_size (by repeat (first | (with_reducible first | exact HB.out | apply below_alloc | apply pw_below_drewN | apply below_drew1) | exact HB.out))) : w.heap.size ≤ gb190)); have n3_ := Aside0.mk ((by rw [hg]; exact (below_size (by repeat (first | (with_reducible first | exact HB.out | apply below_alloc | apply pw_below_drewN | apply below_drew1) | exact HB.out))) : w.heap.size ≤ gb190)); clear HB; have HB := n0_; have BK190 := n1_; have GW190 := n2_; have GE190 := n3_; clear n0_ n1_ n2_ n3_; clear hb hbox hg; have hcz2_0 : w1.cell? ⟨gb190, 0, none⟩ = some (.int .i64 0) := (blk_cell BK190.out 0).trans rfl; have hcz2_1 : w1.cell? ⟨gb190, 1, none⟩ = some (.int .i64 0) := (blk_cell BK190.out 1).trans rfl; have hcz2_2 : w1.cell? ⟨gb190, 2, none⟩ = some (.bool false) := (blk_cell BK190.out 2).trans rfl; have hcz2_3 : w1.cell? ⟨gb190, 3, none⟩ = some (.bool false) := (blk_cell BK190.out 3).trans rfl; have hcz2_4 : w1.cell? ⟨gb190, 4, none⟩ = some (.int .i64 0) := (blk_cell BK190.out 4).trans rfl; have hcz2_5 : w1.cell? ⟨gb190, 5, none⟩ = some (.int .i64 0) := (blk_cell BK190.out 5).trans rfl; have hcz2_6 : w1.cell? ⟨gb190, 6, none⟩ = some (.int .i64 0) := (blk_cell BK190.out 6).trans rfl; have hcz2_7 : w1.cell? ⟨gb190, 7, none⟩ = some (.int .i64 0) := (blk_cell BK190.out 7).trans rfl; have hcz2_8 : w1.cell? ⟨gb190, 8, none⟩ = some (.int .i64 0) := (blk_cell BK190.out 8).trans rfl; have hcz2_9 : w1.cell? ⟨gb190, 9, none⟩ = some (.int .i64 0) := (blk_cell BK190.out 9).trans rfl; have hfz2_0 := blk_frozen BK190.out 0; have hfz2_1 := blk_frozen BK190.out 1; have hfz2_2 := blk_frozen BK190.out 2; have hfz2_3 := blk_frozen BK190.out 3; have hfz2_4 := blk_frozen BK190.out 4; have hfz2_5 := blk_frozen BK190.out 5; have hfz2_6 := blk_frozen BK190.out 6; have hfz2_7 := blk_frozen BK190.out 7; have hfz2_8 := blk_frozen BK190.out 8; have hfz2_9 := blk_frozen BK190.out 9))
  refine bodyPost_ret (results_cell_row rfl _ _ gb190 23 #[.int .i64 16, .int .i64 16, .bool false, .bool true, .int .i64 31, .int .i64 63, .int .i64 31, .int .i64 11, .int .i64 5, .int .i64 0] (0, 0) _ rfl (by (with_reducible repeat (first | refine blk_drewN ?_ _ | refine blk_drew ?_ | refine blk_alloc ?_ _)); refine blk_put (cs := #[.int .i64 16, .int .i64 16, .bool false, .bool true, .int .i64 31, .int .i64 63, .int .i64 31, .int .i64 11, .int .i64 5, .int .i64 0]) ?_ 9 _ rfl; (with_reducible repeat (first | refine blk_drewN ?_ _ | refine blk_drew ?_ | refine blk_alloc ?_ _)); refine blk_put (cs := #[.int .i64 16, .int .i64 16, .bool false, .bool true, .int .i64 31, .int .i64 63, .int .i64 31, .int .i64 11, .int .i64 0, .int .i64 0]) ?_ 8 _ rfl; (with_reducible repeat (first | refine blk_drewN ?_ _ | refine blk_drew ?_ | refine blk_alloc ?_ _)); refine blk_put (cs := #[.int .i64 16, .int .i64 16, .bool false, .bool true, .int .i64 31, .int .i64 63, .int .i64 31, .int .i64 0, .int .i64 0, .int .i64 0]) ?_ 7 _ rfl; (with_reducible repeat (first | refine blk_drewN ?_ _ | refine blk_drew ?_ | refine blk_alloc ?_ _)); refine blk_put (cs := #[.int .i64 16, .int .i64 16, .bool false, .bool true, .int .i64 31, .int .i64 63, .int .i64 0, .int .i64 0, .int .i64 0, .int .i64 0]) ?_ 6 _ rfl; (with_reducible repeat (first | refine blk_drewN ?_ _ | refine blk_drew ?_ | refine blk_alloc ?_ _)); refine blk_put (cs := #[.int .i64 16, .int .i64 16, .bool false, .bool true, .int .i64 31, .int .i64 0, .int .i64 0, .int .i64 0, .int .i64 0, .int .i64 0]) ?_ 5 _ rfl; (with_reducible repeat (first | refine blk_drewN ?_ _ | refine blk_drew ?_ | refine blk_alloc ?_ _)); refine blk_put (cs := #[.int .i64 16, .int .i64 16, .bool false, .bool true, .int .i64 0, .int .i64 0, .int .i64 0, .int .i64 0, .int .i64 0, .int .i64 0]) ?_ 4 _ rfl; (with_reducible repeat (first | refine blk_drewN ?_ _ | refine blk_drew ?_ | refine blk_alloc ?_ _)); refine blk_put (cs := #[.int .i64 16, .int .i64 16, .bool false, .bool false, .int .i64 0, .int .i64 0, .int .i64 0, .int .i64 0, .int .i64 0, .int .i64 0]) ?_ 3 _ rfl; (with_reducible repeat (first | refine blk_drewN ?_ _ | refine blk_drew ?_ | refine blk_alloc ?_ _)); refine blk_put (cs := #[.int .i64 16, .int .i64 16, .bool false, .bool false, .int .i64 0, .int .i64 0, .int .i64 0, .int .i64 0, .int .i64 0, .int .i64 0]) ?_ 2 _ rfl; (with_reducible repeat (first | refine blk_drewN ?_ _ | refine blk_drew ?_ | refine blk_alloc ?_ _)); refine blk_put (cs := #[.int .i64 16, .int .i64 0, .bool false, .bool false, .int .i64 0, .int .i64 0, .int .i64 0, .int .i64 0, .int .i64 0, .int .i64 0]) ?_ 1 _ rfl; (with_reducible repeat (first | refine blk_drewN ?_ _ | refine blk_drew ?_ | refine blk_alloc ?_ _)); refine blk_put (cs := #[.int .i64 0, .int .i64 0, .bool false, .bool false, .int .i64 0, .int .i64 0, .int .i64 0, .int .i64 0, .int .i64 0, .int .i64 0]) ?_ 0 _ rfl; (with_reducible repeat (first | refine blk_drewN ?_ _ | refine blk_drew ?_ | refine blk_alloc ?_ _)); exact BK190.out) Try.underlying23 rfl (by kernel_rfl)) rfl ?_
  exact ⟨by first | rfl | (simp [errW_none, errW_some] <;> rfl) | (simp [*, errW_none, errW_some] <;> rfl), by repeat (first | (with_reducible first | exact HB.out | apply below_alloc | apply pw_below_drewN | apply below_drew1 | refine below_set ?_ GE190.out) | exact HB.out)⟩

end Go.Proofs.Ytaielfghgmghgaa.X
