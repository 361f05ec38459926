/- 'For all large numbers of rounds': what a printed function with rounds answers. No condition. -/
import Derived.Test.YtkmfhfejogjnfaaB0
namespace Go.Proofs.Ytkmfhfejogjnfaa.EV
/-- From some number of rounds on the answer is r. -/
def Evt {α : Type} (g : Nat → Option α) (r : α) : Prop := ∃ K, ∀ k, K ≤ k → g k = some r
section
variable {α β : Type} {f g b : Nat → Option α} {r : α}
theorem Evt.const (r : α) : Evt (fun _ => some r) r := ⟨0, fun _ _ => rfl⟩
theorem Evt.of_eq (h : ∀ k, g k = some r) : Evt g r := ⟨0, fun k _ => h k⟩
theorem Evt.congr (h : Evt g r) (e : ∀ k, f k = g k) : Evt f r := by
  obtain ⟨K, hK⟩ := h
  exact ⟨K, fun k hk => (e k).trans (hK k hk)⟩
theorem Evt.step (hb : Evt b r) (h : ∀ k, f (k + 1) = b k) : Evt f r := by
  obtain ⟨K, hK⟩ := hb
  refine ⟨K + 1, fun k hk => ?_⟩
  obtain ⟨m, rfl⟩ : ∃ m, k = m + 1 := ⟨k - 1, by omega⟩
  rw [h]; exact hK m (by omega)
theorem Evt.bind {x : Nat → Option β} {a : β} {y : Nat → β → Option α} (hx : Evt x a) (hy : Evt (fun k => y k a) r) : Evt (fun k => (x k).bind (y k)) r := by
  obtain ⟨K, hK⟩ := hx
  obtain ⟨L, hL⟩ := hy
  refine ⟨max K L, fun k hk => ?_⟩
  show (x k).bind (y k) = some r
  rw [hK k (by omega)]
  exact hL k (by omega)
theorem Evt.step2 {x : Nat → Option β} {a : β} (hx : Evt x a) (hb : Evt b r) (h : ∀ k, x k = some a → f (k + 1) = b k) : Evt f r := by
  obtain ⟨K, hK⟩ := hx
  obtain ⟨L, hL⟩ := hb
  refine ⟨max K L + 1, fun k hk => ?_⟩
  obtain ⟨m, rfl⟩ : ∃ m, k = m + 1 := ⟨k - 1, by omega⟩
  rw [h m (hK m (by omega))]; exact hL m (by omega)
theorem Evt.bind2 {x : Nat → Option β} {a : β} (hx : Evt x a) (hb : Evt b r) (h : ∀ k, x k = some a → f k = b k) : Evt f r := by
  obtain ⟨K, hK⟩ := hx
  obtain ⟨L, hL⟩ := hb
  refine ⟨max K L, fun k hk => ?_⟩
  rw [h k (hK k (by omega))]; exact hL k (by omega)
theorem Evt.ite_pos {c : Prop} [Decidable c] {x y : Nat → Option α} (hc : c) (h : Evt x r) : Evt (fun k => if c then x k else y k) r := h.congr fun _ => if_pos hc
theorem Evt.ite_neg {c : Prop} [Decidable c] {x y : Nat → Option α} (hc : ¬ c) (h : Evt y r) : Evt (fun k => if c then x k else y k) r := h.congr fun _ => if_neg hc
theorem Evt.get (h : Evt g r) : ∃ k, g k = some r := by obtain ⟨K, hK⟩ := h; exact ⟨K, hK K (Nat.le_refl _)⟩
theorem Evt.get2 {x : Nat → Option β} {a : β} (h : Evt g r) (h2 : Evt x a) : ∃ k, g k = some r ∧ x k = some a := by
  obtain ⟨K, hK⟩ := h; obtain ⟨L, hL⟩ := h2
  exact ⟨max K L, hK _ (by omega), hL _ (by omega)⟩
end
end Go.Proofs.Ytkmfhfejogjnfaa.EV
