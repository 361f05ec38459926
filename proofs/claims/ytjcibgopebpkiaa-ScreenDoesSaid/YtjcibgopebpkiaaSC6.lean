/- A screen by its places: which colours may be. No condition. -/
import Derived.Test.YtjcibgopebpkiaaSC5
namespace Go.Proofs.Ytjcibgopebpkiaa.SC
open Go.RowKit Go.Proofs.YtjcibgopebpkiaaW.PrintWords Go.Proofs.YtjcibgopebpkiaaW.PrintLast Go.Proofs.YtjcibgopebpkiaaW.PrintMore Go.Proofs.Ytjcibgopebpkiaa.B Go.Proofs.Ytjcibgopebpkiaa.SCP
set_option linter.unusedVariables false
set_option linter.unusedSimpArgs false
def isC (n : Int) : Bool := decide (0 ≤ n ∧ n ≤ 16777215)
set_option maxHeartbeats 1000000 in
set_option maxRecDepth 100000 in
theorem odd_c (n : Int) (W : World) : Calls Try.prog 36 #[.int .i64 n] W fun e W' => e = .returned (.bool (!(isC n))) ∧ ∃ m, W' = W.drewN m := by
  have HC := Lib.hid (X.screen_colour.calls n (isC n) W (colour_f n))
  go_enter Try.func36, Try.ntmps36
  go_wp2_with fail
  refine HC.out.mono ?_
  rintro e _ ⟨rfl, ⟨m, rfl⟩⟩
  go_wp2
  go_ret
  exact ⟨rfl, m, rfl⟩
set_option maxHeartbeats 2000000 in
set_option maxRecDepth 100000 in
theorem Index_c (A : Option Addr) (n c : Nat) (P : Nat → Int) (W : World) (hn : n ≤ 1000000000000000) (h : ∀ i, i < n → ∃ ad, A = some ad ∧ W.cell? (ad.add i) = some (.int .i64 (P i))) :
    Calls Try.prog 44 #[.slice A n c, .func (.func 36) #[] #[]] W fun e W' => ∃ r : Int, e = .returned (.int .i64 r) ∧ decide (0 ≤ r) = !(List.range n).all (fun i => isC (P i)) ∧ ∃ m, W' = W.drewN m := by
  have H := Lib.hid h
  clear h
  go_enter Try.func44, Try.ntmps44
  go_wp2_with fail
  go_loopw [8] (fun i wr => ∃ (k m : Nat), k ≤ n ∧ i = .int .i64 k ∧ Hid (∀ i, i < k → isC (P i) = true) ∧ wr = W.drewN m) (fun i _ => n - (intOf i).toNat)
  case atStart => exact ⟨0, 0, Nat.zero_le _, rfl, Lib.hid (fun i h => absurd h (Nat.not_lt_zero i)), rfl⟩
  case round =>
    obtain ⟨k, m, hk, rfl, HA, rfl⟩ := hrel
    by_cases hlt : k < n
    · obtain ⟨ad, rfl, e1⟩ := H.out k hlt
      have hd : decide ((k : Int) < n) = true := decide_eq_true (by omega)
      go_wp2_with fail
      refine (odd_c (P k) _).mono ?_
      rintro e _ ⟨rfl, m2, rfl⟩
      cases hc : isC (P k)
      · go_wp2
        go_ret
        refine ⟨_, rfl, ?_, _, rfl⟩
        rw [decide_eq_true (by omega)]
        symm
        rw [Bool.not_eq_true', List.all_eq_false]
        exact ⟨k, List.mem_range.2 hlt, by simp [hc]⟩
      · have HC := Lib.hid hc
        clear e1
        go_wp2
        go_roundw
        case rel => exact ⟨k + 1, _, by omega, by simp, Lib.hid (fun i hi => by rcases Nat.lt_succ_iff_lt_or_eq.1 hi with h | h; exact HA.out i h; rw [h]; exact HC.out), rfl⟩
        case measure => simp [intOf]; omega
    · have hd : decide ((k : Int) < n) = false := decide_eq_false (by omega)
      go_wp2
      go_ret
      refine ⟨_, rfl, ?_, _, rfl⟩
      rw [decide_eq_false (by omega)]
      symm
      rw [Bool.not_eq_false', List.all_eq_true]
      intro i hi
      exact HA.out i (by have := List.mem_range.1 hi; omega)
set_option maxHeartbeats 1000000 in
set_option maxRecDepth 100000 in
theorem Contains_c (A : Option Addr) (n c : Nat) (P : Nat → Int) (W : World) (hn : n ≤ 1000000000000000) (h : ∀ i, i < n → ∃ ad, A = some ad ∧ W.cell? (ad.add i) = some (.int .i64 (P i))) :
    Calls Try.prog 38 #[.slice A n c, .func (.func 36) #[] #[]] W fun e W' => e = .returned (.bool (!(List.range n).all (fun i => isC (P i)))) ∧ ∃ m, W' = W.drewN m := by
  have HC := Lib.hid (Index_c A n c P W hn h)
  clear h
  go_enter Try.func38, Try.ntmps38
  go_wp2_with fail
  refine HC.out.mono ?_
  rintro e _ ⟨r, rfl, hr, m, rfl⟩
  have HR := Lib.hid hr
  clear hr
  go_wp2
  go_ret
  exact ⟨by rw [← HR.out]; rfl, m, rfl⟩
end Go.Proofs.Ytjcibgopebpkiaa.SC
