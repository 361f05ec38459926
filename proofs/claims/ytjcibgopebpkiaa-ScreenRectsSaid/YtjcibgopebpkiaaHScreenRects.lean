/- ScreenRects: what is inside, what is whole, and what two rectangles have in common, is just what the document says. No condition. -/
-- OPEN 0 Go.Proofs.Ytjcibgopebpkiaa.RC.open_rect fa fb fc fd : ga gb gc gd
-- OPEN 1 Go.Proofs.Ytjcibgopebpkiaa.RC.open_rect fa fb fc fd : ga gb gc gd
import Derived.Test.YtjcibgopebpkiaaYx
import Derived.Test.YtjcibgopebpkiaaRC
namespace Go.Proofs.Ytjcibgopebpkiaa.H
open Go.RowKit Go.Proofs.YtjcibgopebpkiaaW.PrintWords Go.Proofs.YtjcibgopebpkiaaW.PrintLast Go.Proofs.YtjcibgopebpkiaaW.PrintMore Go.Proofs.Ytjcibgopebpkiaa.B
set_option linter.unusedVariables false
set_option linter.unusedSimpArgs false
theorem y_inside (x y rw rh w h : Int) : ∃ b, Y.screen_Inside.f x y rw rh w h = some b ∧ Y.miradorref14_Inside.f x y rw rh w h = some b := by
  unfold Y.screen_Inside.f Y.screen_within.f Y.miradorref14_Inside.f
  by_cases a1 : x ≥ 0 <;> by_cases a2 : y ≥ 0 <;> by_cases a3 : rw ≥ 0 <;> by_cases a4 : rh ≥ 0 <;> by_cases a5 : rw ≤ w <;> by_cases a6 : x ≤ wrap64 (w - rw) <;> by_cases a7 : rh ≤ h <;> simp [a1, a2, a3, a4, a5, a6, a7]
theorem mx_c (a b : Int) : mx a b = mx b a := by unfold mx; omega
theorem mn_c (a b : Int) : mn a b = mn b a := by unfold mn; omega
theorem y_meet (a b c d e f g h : Int) : Y.screen_Meet.f a b c d e f g h = Y.miradorref14_Meet.f a b c d e f g h := by
  unfold Y.screen_Meet.f Y.screen_common.f Y.miradorref14_Meet.f
  simp only [Option.bind_some]
theorem y_meet_c (a b c d e f g h : Int) : Y.screen_Meet.f e f g h a b c d = Y.screen_Meet.f a b c d e f g h := by
  unfold Y.screen_Meet.f Y.screen_common.f
  simp only [Option.bind_some]
  rw [mx_c e a, mx_c f b, mn_c (wrap64 (e + g)), mn_c (wrap64 (f + h))]
theorem y_meet_some (a b c d e f g h : Int) : ∃ r, Y.screen_Meet.f a b c d e f g h = some r := by
  unfold Y.screen_Meet.f Y.screen_common.f
  simp only [Option.bind_some]
  split
  · exact ⟨_, rfl⟩
  · split <;> exact ⟨_, rfl⟩
theorem y_loop (x y z h x' y' z' h' w v : Int) (l : List Int) (hl : l.length = 8) : ∀ (d i k : Nat), i + d = 8 → 2 * d + 1 < k → Y.miradorlaw14_ScreenRects.l0 k w v true l i x y z h x' y' z' h' = some true := by
  obtain ⟨b, hb1, hb2⟩ := y_inside x y z h w v
  obtain ⟨r, hr⟩ := y_meet_some x y z h x' y' z' h'
  have hr2 := (y_meet x y z h x' y' z' h').symm.trans hr
  have hr3 := (y_meet_c x y z h x' y' z' h').trans hr
  intro d
  induction d with
  | zero =>
    intro i k hi hk
    obtain ⟨k, rfl⟩ : ∃ m, k = m + 1 := ⟨k - 1, by omega⟩
    simp only [Y.miradorlaw14_ScreenRects.l0]
    rw [if_neg (by rw [hl]; omega), if_pos trivial, hb1, hb2, hr, hr2, hr3]
    simp [Y.screen_Whole.f]
  | succ d ih =>
    intro i k hi hk
    obtain ⟨k, rfl⟩ : ∃ m, k = m + 2 := ⟨k - 2, by omega⟩
    have h1 := ih (i + 1) k (by omega) (by omega)
    have hw : wrap64 ((i : Int) + 1) = ((i + 1 : Nat) : Int) := by rw [w64 (by omega) (by omega)]; push_cast; rfl
    have hj : ∀ q, Y.miradorlaw14_ScreenRects.j1 (k + 1) w v true l i q x y z h x' y' z' h' = some true := by
      intro q
      simp only [Y.miradorlaw14_ScreenRects.j1]
      split
      · rw [if_pos trivial, hb1, hb2]; simp
      · rw [hw]; exact h1
    simp only [Y.miradorlaw14_ScreenRects.l0]
    rw [if_pos (by rw [hl]; omega), if_pos (by omega)]
    split
    · exact hj _
    · exact hj _
theorem ScreenRects_walk (x y z h x' y' z' h' w v : Int) (W : World) (h0 : (Lit.int .i64 x).wf = true) (h1 : (Lit.int .i64 y).wf = true) (h2 : (Lit.int .i64 z).wf = true) (h3 : (Lit.int .i64 h).wf = true) (h4 : (Lit.int .i64 x').wf = true) (h5 : (Lit.int .i64 y').wf = true) (h6 : (Lit.int .i64 z').wf = true) (h7 : (Lit.int .i64 h').wf = true) (h8 : (Lit.int .i64 w).wf = true) (h9 : (Lit.int .i64 v).wf = true) :
    Calls Try.prog 7 #[.agg #[.int .i64 x, .int .i64 y, .int .i64 z, .int .i64 h], .agg #[.int .i64 x', .int .i64 y', .int .i64 z', .int .i64 h'], .int .i64 w, .int .i64 v] W fun e W' => e = .returned (.bool true) ∧ Below W.heap.size W W' := by
  refine Y.miradorlaw14_ScreenRects.calls 30 x y z h x' y' z' h' w v true W ?_
  unfold Y.miradorlaw14_ScreenRects.f Y.miradorlaw14_works.f
  simp only [Option.bind_some, if_true]
  exact y_loop x y z h x' y' z' h' w v _ rfl 8 0 30 (by omega) (by omega)
end Go.Proofs.Ytjcibgopebpkiaa.H
