import Derived.Test.YtpackckoblpbfaaSM7
import Derived.Test.YtpackckoblpbfaaXx48
/-! What the law asks of each reading. -/
namespace Go.Proofs.Ytpackckoblpbfaa.H
set_option linter.unusedVariables false
open Go.RowKit Go.Proofs.Ytpackckoblpbfaa.X Go.Proofs.Ytpackckoblpbfaa.B Go.Proofs.Ytpackckoblpbfaa.O Go.Proofs.Ytpackckoblpbfaa.F Go.Proofs.YtpackckoblpbfaaW.PrintWords Go.Proofs.YtpackckoblpbfaaW.PrintLast Go.Proofs.YtpackckoblpbfaaW.PrintMore
theorem after_f {n e m f long : Int} (h : afterP n e m f long) : miradorlaw23_after.f n e m f long = some true := by
  obtain ⟨h1, h2, h3⟩ := h
  unfold miradorlaw23_after.f
  by_cases e0 : e = 0
  · obtain ⟨a, b, c⟩ := h1 e0
    rw [if_pos e0, if_pos a, if_pos b, decide_eq_true c]
  · rw [if_neg e0]
    by_cases e2 : e = 2
    · obtain ⟨a, b⟩ := h2 e2
      rw [if_pos e2, if_pos a]
      by_cases f0 : f = 0
      · rw [if_pos f0, decide_eq_true (show m > long from b.resolve_left (fun h => h f0))]
      · rw [if_neg f0]
    · obtain ⟨a, b⟩ := h3 e0 e2
      rw [if_neg e2, if_pos a, b]
      simp
theorem pair {α β : Type} {f : RS → Option (α × RS)} (hl : Lock Any f) (A : α → RS → β) (B : RS → β) (N E : β → Int) (a1 : ∀ v p, N (A v p) = p.at_) (a2 : ∀ v p, E (A v p) = 0) (b1 : ∀ p, N (B p) = 0) (b2 : ∀ p, E (B p) = if p.re = 0 then p.ce else p.re)
    (s t : ByteArray) (h1 : s.size ≤ 4611686018427387904) (h2 : (s ++ t).size ≤ 4611686018427387904) :
    ∃ x y, ((f ⟨s, 0, 0, 0⟩).bind fun p => if p.2.re = 0 ∧ p.2.ce = 0 then some (A p.1 p.2) else some (B p.2)) = some x ∧ ((f ⟨s ++ t, 0, 0, 0⟩).bind fun p => if p.2.re = 0 ∧ p.2.ce = 0 then some (A p.1 p.2) else some (B p.2)) = some y ∧ miradorlaw23_after.f (N x) (E x) (N y) (E y) (s.size : Int) = some true := by
  obtain ⟨v, v', p, p', e1, e2, ha⟩ := lock_after hl s t h1 h2
  have key : ∀ (v : α) (p : RS), ∃ x, (if p.re = 0 ∧ p.ce = 0 then some (A v p) else some (B p)) = some x ∧ N x = (if p.re = 0 ∧ p.ce = 0 then p.at_ else 0) ∧ E x = (if p.re = 0 then p.ce else p.re) := fun v p => by
    by_cases hc : p.re = 0 ∧ p.ce = 0
    · exact ⟨A v p, if_pos hc, by rw [if_pos hc, a1], by rw [a2, if_pos hc.1, hc.2]⟩
    · exact ⟨B p, if_neg hc, by rw [if_neg hc, b1], b2 p⟩
  obtain ⟨x, x1, x2, x3⟩ := key v p
  obtain ⟨y, y1, y2, y3⟩ := key v' p'
  exact ⟨x, y, bind_eq e1 x1, bind_eq e2 y1, by rw [x2, x3, y2, y3]; exact after_f ha⟩
end Go.Proofs.Ytpackckoblpbfaa.H
