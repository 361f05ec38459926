import Derived.Test.YtpackckoblpbfaaB0
import Derived.Test.YtpackckoblpbfaaXx18
/-! What a reader's steps keep: over the state RS (seat Ytpackckoblpbfaa): plain. -/
namespace Go.Proofs.Ytpackckoblpbfaa.H
set_option linter.unusedVariables false
open Go.Proofs.Ytpackckoblpbfaa.X
/-- A reader that stands within its text. -/
def Ok (q : RS) : Prop := q.s.size ≤ 4611686018427387904 ∧ 0 ≤ q.at_ ∧ q.at_ ≤ (q.s.size : Int) ∧ (q.ce = 0 ∨ q.ce = 2) ∧ q.re ≠ 2
/-- Something was wrong, or it stands behind L. -/
def U2 (L : Int) (q : RS) : Prop := q.ce ≠ 0 ∨ q.re ≠ 0 ∨ L < q.at_
structure Goes (q p : RS) : Prop where
  ok : Ok p
  s : p.s = q.s
  u1 : q.ce = 2 → q.re = 0 → p.ce = 2 ∧ p.re = 0
  u2 : ∀ L, U2 L q → U2 L p
  u3 : q.re ≠ 0 → p.re = q.re
theorem Goes.refl {q : RS} (h : Ok q) : Goes q q := ⟨h, rfl, fun a b => ⟨a, b⟩, fun _ h => h, fun _ => rfl⟩
theorem Goes.trans {q p r : RS} (h : Goes q p) (k : Goes p r) : Goes q r :=
  ⟨k.ok, k.s.trans h.s, fun a b => k.u1 (h.u1 a b).1 (h.u1 a b).2, fun L u => k.u2 L (h.u2 L u), fun a => (k.u3 (by rw [h.u3 a]; exact a)).trans (h.u3 a)⟩
/-- It answers (P holds of what it answers), and the reader goes on. -/
def Good {α : Type} (P : α → Prop) (f : RS → Option (α × RS)) : Prop := ∀ q, Ok q → ∃ v p, f q = some (v, p) ∧ P v ∧ Goes q p
/-- Over a text and a longer one: in step. -/
def Sync (t : ByteArray) (q p : RS) : Prop := p.s = q.s ++ t ∧ p.at_ = q.at_ ∧ q.ce = 0 ∧ p.ce = 0 ∧ q.re = 0 ∧ p.re = 0
/-- Out of step: the shorter text was too short, or one error stands in both. -/
def Off (q p : RS) : Prop := (q.ce = 2 ∧ q.re = 0 ∧ U2 (q.s.size : Int) p) ∨ (q.re ≠ 0 ∧ p.re = q.re)
def Lock {α : Type} (P : α → Prop) (f : RS → Option (α × RS)) : Prop := ∀ t q q', Ok q → Ok q' → Sync t q q' → ∃ v v' p p', f q = some (v, p) ∧ f q' = some (v', p') ∧ P v ∧ P v' ∧ Ok p ∧ Ok p' ∧ p.s = q.s ∧ ((Sync t p p' ∧ v = v') ∨ Off p p')
theorem Off.goes {q p q2 p2 : RS} (h : Off q p) (a : Goes q q2) (b : Goes p p2) : Off q2 p2 := by
  rcases h with ⟨h1, h2, h3⟩ | ⟨h1, h2⟩
  · obtain ⟨k1, k2⟩ := a.u1 h1 h2
    exact .inl ⟨k1, k2, by rw [a.s]; exact b.u2 _ h3⟩
  · refine .inr ⟨by rw [a.u3 h1]; exact h1, ?_⟩
    rw [a.u3 h1, b.u3 (by rw [h2]; exact h1), h2]
section
variable {α β : Type}
theorem Good.pure {P : α → Prop} (v : α) (hv : P v) : Good P (fun q => some (v, q)) := fun q h => ⟨v, q, rfl, hv, Goes.refl h⟩
theorem Lock.pure {P : α → Prop} (v : α) (hv : P v) : Lock P (fun q => some (v, q)) := fun _ q q' h h' hs => ⟨v, v, q, q', rfl, rfl, hv, hv, h, h', rfl, .inl ⟨hs, rfl⟩⟩
theorem Good.bind {P : α → Prop} {Q : β → Prop} {f : RS → Option (α × RS)} {g : α → RS → Option (β × RS)} (hf : Good P f) (hg : ∀ v, P v → Good Q (g v)) : Good Q (fun q => (f q).bind fun p => g p.1 p.2) := fun q h => by
  obtain ⟨v, p, e1, hv, h1⟩ := hf q h
  obtain ⟨u, r, e2, hu, h2⟩ := hg v hv p h1.ok
  exact ⟨u, r, by show (f q).bind _ = _; rw [e1]; exact e2, hu, h1.trans h2⟩
theorem Lock.bind {P : α → Prop} {Q : β → Prop} {f : RS → Option (α × RS)} {g : α → RS → Option (β × RS)} (hf : Lock P f) (hg : ∀ v, P v → Good Q (g v)) (hl : ∀ v, P v → Lock Q (g v)) : Lock Q (fun q => (f q).bind fun p => g p.1 p.2) := fun t q q' h h' hs => by
  obtain ⟨v, v', p, p', e1, e2, hv, hv', o1, o2, es, hc⟩ := hf t q q' h h' hs
  rcases hc with ⟨hs2, rfl⟩ | hoff
  · obtain ⟨u, u', r, r', a1, a2, b1, b2, a3, a4, a5, a6⟩ := hl v hv t p p' o1 o2 hs2
    exact ⟨u, u', r, r', by show (f q).bind _ = _; rw [e1]; exact a1, by show (f q').bind _ = _; rw [e2]; exact a2, b1, b2, a3, a4, a5.trans es, a6⟩
  · obtain ⟨u, r, a1, hu, a2⟩ := hg v hv p o1
    obtain ⟨u', r', b1, hu', b2⟩ := hg v' hv' p' o2
    exact ⟨u, u', r, r', by show (f q).bind _ = _; rw [e1]; exact a1, by show (f q').bind _ = _; rw [e2]; exact b1, hu, hu', a2.ok, b2.ok, a2.s.trans es, .inr (hoff.goes a2 b2)⟩
theorem Good.ite {P : α → Prop} {c : Prop} [Decidable c] {f g : RS → Option (α × RS)} (hf : c → Good P f) (hg : ¬ c → Good P g) : Good P (fun q => if c then f q else g q) := fun q h => by
  by_cases hc : c
  · simpa [hc] using hf hc q h
  · simpa [hc] using hg hc q h
theorem Lock.ite {P : α → Prop} {c : Prop} [Decidable c] {f g : RS → Option (α × RS)} (hf : c → Lock P f) (hg : ¬ c → Lock P g) : Lock P (fun q => if c then f q else g q) := fun t q q' h h' hs => by
  by_cases hc : c
  · simpa [hc] using hf hc t q q' h h' hs
  · simpa [hc] using hg hc t q q' h h' hs
theorem Good.weak {P Q : α → Prop} {f : RS → Option (α × RS)} (h : Good P f) (hq : ∀ v, P v → Q v) : Good Q f := fun q o => by
  obtain ⟨v, p, e, hv, g⟩ := h q o
  exact ⟨v, p, e, hq v hv, g⟩
end
/-- The reader's own error, set. -/
theorem fail_good (is : Bool) (e : Int) (he : e ≠ 2) : Good (fun _ => True) (fun q => some ((), failS q is e)) := fun q h => by
  refine ⟨(), _, rfl, trivial, ?_⟩
  unfold failS
  by_cases hc : is = true ∧ q.ce = 0 ∧ q.re = 0
  · rw [if_pos hc]
    obtain ⟨h1, h2, h3⟩ := hc
    obtain ⟨k1, k2, k3, k4, k5⟩ := h
    refine ⟨⟨k1, k2, k3, k4, he⟩, rfl, fun a => ?_, fun L u => ?_, fun a => absurd h3 a⟩
    · rw [h2] at a; cases a
    · rcases u with u | u | u
      · exact absurd h2 u
      · exact absurd h3 u
      · exact .inr (.inr u)
  · rw [if_neg hc]
    exact Goes.refl h
theorem fail_lock (is : Bool) (e : Int) (he : e ≠ 2) : Lock (fun _ => True) (fun q => some ((), failS q is e)) := fun t q q' h h' hs => by
  obtain ⟨s1, s2, s3, s4, s5, s6⟩ := hs
  obtain ⟨k1, k2, k3, k4, k5⟩ := h
  obtain ⟨m1, m2, m3, m4, m5⟩ := h'
  refine ⟨(), (), _, _, rfl, rfl, trivial, trivial, ?_⟩
  unfold failS
  cases is with
  | false =>
    rw [if_neg (by simp), if_neg (by simp)]
    exact ⟨⟨k1, k2, k3, k4, k5⟩, ⟨m1, m2, m3, m4, m5⟩, rfl, .inl ⟨⟨s1, s2, s3, s4, s5, s6⟩, rfl⟩⟩
  | true =>
    rw [if_pos ⟨rfl, s3, s5⟩, if_pos ⟨rfl, s4, s6⟩]
    refine ⟨⟨k1, k2, k3, k4, he⟩, ⟨m1, m2, m3, m4, he⟩, rfl, ?_⟩
    by_cases h0 : e = 0
    · subst h0
      exact .inl ⟨⟨s1, s2, s3, s4, rfl, rfl⟩, rfl⟩
    · exact .inr (.inr ⟨h0, rfl⟩)
/-- What the law asks of a text and a longer one. -/
def afterP (n e m f long : Int) : Prop := (e = 0 → f = 0 ∧ n = m ∧ n ≤ long) ∧ (e = 2 → n = 0 ∧ (f ≠ 0 ∨ long < m)) ∧ (e ≠ 0 → e ≠ 2 → n = 0 ∧ f = e)
theorem lock_after {α : Type} {P : α → Prop} {f : RS → Option (α × RS)} (hf : Lock P f) (s t : ByteArray) (h1 : s.size ≤ 4611686018427387904) (h2 : (s ++ t).size ≤ 4611686018427387904) : ∃ v v' p p', f ⟨s, 0, 0, 0⟩ = some (v, p) ∧ f ⟨s ++ t, 0, 0, 0⟩ = some (v', p') ∧
    afterP (if p.re = 0 ∧ p.ce = 0 then p.at_ else 0) (if p.re = 0 then p.ce else p.re) (if p'.re = 0 ∧ p'.ce = 0 then p'.at_ else 0) (if p'.re = 0 then p'.ce else p'.re) s.size := by
  obtain ⟨v, v', p, p', e1, e2, _, _, o1, o2, es, hc⟩ := hf t ⟨s, 0, 0, 0⟩ ⟨s ++ t, 0, 0, 0⟩ ⟨h1, Int.le_refl _, Int.natCast_nonneg _, .inl rfl, fun h => absurd h (show ¬ ((0 : Int) = 2) by decide)⟩ ⟨h2, Int.le_refl _, Int.natCast_nonneg _, .inl rfl, fun h => absurd h (show ¬ ((0 : Int) = 2) by decide)⟩ ⟨rfl, rfl, rfl, rfl, rfl, rfl⟩
  refine ⟨v, v', p, p', e1, e2, ?_⟩
  obtain ⟨k1, k2, k3, k4, k5⟩ := o1
  rw [es] at k3
  rcases hc with ⟨⟨s1, s2, s3, s4, s5, s6⟩, _⟩ | ⟨c1, c2, c3⟩ | ⟨c1, c2⟩
  · simp only [s3, s4, s5, s6, s2]
    exact ⟨fun _ => ⟨rfl, rfl, k3⟩, fun h => by simp at h, fun h => absurd rfl h⟩
  · simp only [c1, c2]
    refine ⟨fun h => by simp at h, fun _ => ⟨by simp, ?_⟩, fun _ h => absurd rfl h⟩
    rw [es] at c3
    rcases c3 with u | u | u
    · left
      by_cases hr : p'.re = 0
      · rw [if_pos hr]; exact u
      · rw [if_neg hr]; exact hr
    · left
      rw [if_neg u]; exact u
    · by_cases hr : p'.re = 0 ∧ p'.ce = 0
      · right; rw [if_pos hr]; exact u
      · left
        by_cases hr2 : p'.re = 0
        · rw [if_pos hr2]; exact fun h => hr ⟨hr2, h⟩
        · rw [if_neg hr2]; exact hr2
  · have c3 : p'.re ≠ 0 := by rw [c2]; exact c1
    rw [if_neg (fun h => c1 h.1), if_neg c1, if_neg (fun h => c3 h.1), if_neg c3, c2]
    exact ⟨fun h => absurd h c1, fun h => absurd h k5, fun _ _ => ⟨rfl, rfl⟩⟩
end Go.Proofs.Ytpackckoblpbfaa.H
