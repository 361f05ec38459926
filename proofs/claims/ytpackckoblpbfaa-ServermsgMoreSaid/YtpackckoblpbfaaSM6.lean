import Derived.Test.YtpackckoblpbfaaSM5
import Derived.Test.YtpackckoblpbfaaFM9
import Derived.Test.YtpackckoblpbfaaXx20
import Derived.Test.YtpackckoblpbfaaXx19
/-! A start, of a text and of a longer one. -/
namespace Go.Proofs.Ytpackckoblpbfaa.H
set_option linter.unusedVariables false
open Go.RowKit Go.Proofs.Ytpackckoblpbfaa.X Go.Proofs.Ytpackckoblpbfaa.B Go.Proofs.Ytpackckoblpbfaa.O Go.Proofs.Ytpackckoblpbfaa.F Go.Proofs.YtpackckoblpbfaaW.PrintWords Go.Proofs.YtpackckoblpbfaaW.PrintLast Go.Proofs.YtpackckoblpbfaaW.PrintMore
abbrev P11 := Int × Int × Bool × Bool × Int × Int × Int × Int × Int × Int × Int
def pE (p : P11) : Int := p.2.2.2.2.2.2.2.2.2.2
theorem parse_any (s : ByteArray) (hs : s.size ≤ 4611686018427387904) : ∃ p : P11, format_Parse.f s = some p ∧ (16 ≤ s.size → pE p = 0 ∨ pE p = 130) := by
  by_cases h : s.size < 16
  · exact ⟨_, parse_short s h, fun h2 => by omega⟩
  · obtain ⟨b, hb, _⟩ := valid_f 200 (by decide) ((bytesOf s).getD 0 0) ((bytesOf s).getD 1 0) ((bytesOf s).getD 2 0 != 0) ((bytesOf s).getD 3 0 != 0) ((bytesOf s).getD 4 0 * 256 + (bytesOf s).getD 5 0) ((bytesOf s).getD 6 0 * 256 + (bytesOf s).getD 7 0) ((bytesOf s).getD 8 0 * 256 + (bytesOf s).getD 9 0) ((bytesOf s).getD 10 0) ((bytesOf s).getD 11 0) ((bytesOf s).getD 12 0)
    refine ⟨_, parse_long s hs (by omega) _ rfl b hb, fun _ => ?_⟩
    split
    · exact .inl rfl
    · exact .inr rfl
theorem fail_goes (q : RS) (is : Bool) (e : Int) (he : e ≠ 2) (h : Ok q) : Goes q (failS q is e) := by
  obtain ⟨v, p, e1, _, g⟩ := fail_good is e he q h
  obtain ⟨_, rfl⟩ := Prod.mk.inj (Option.some.inj e1)
  exact g
theorem failS_off (q : RS) (is : Bool) (e : Int) (h : q.ce ≠ 0) : failS q is e = q := if_neg (fun hc => h hc.2.1)
def sA (u0 u1 : Int) (q : RS) : Option (P11 × RS) := (bytesS q 16).bind fun c => (format_Parse.f c.1).bind fun p => some (p, failS (failS c.2 (u0 == 0 || u1 == 0) 3) (pE p != 0) (pE p))
theorem rd16 (q : RS) (h : Ok q) (hc : (afterR q (rdB q.s q.at_ q.ce 16)).ce = 0) : 16 ≤ (rdB q.s q.at_ q.ce 16).1.size := by
  obtain ⟨s, p, e, r⟩ := q
  obtain ⟨k1, k2, k3, k4, k5⟩ := h
  have k2 : 0 ≤ p := k2
  have k3 : p ≤ (s.size : Int) := k3
  by_cases he : e = 0
  · subst he
    by_cases hl : (16 : Int) > (s.size : Int) - p
    · have hc : (rdB s p 0 16).2.2 = 0 := hc
      rw [rdB_m (by decide) hl] at hc
      exact absurd hc (show ¬ ((2 : Int) = 0) by decide)
    · show 16 ≤ (rdB s p 0 16).1.size
      rw [rdB_i (by decide) hl]
      show 16 ≤ (s.extract p.toNat (p + 16).toNat).size
      rw [ByteArray.size_extract]
      omega
  · have hc : (rdB s p e 16).2.2 = 0 := hc
    rw [rdB_e he] at hc
    exact absurd hc he
theorem sA_step (u0 u1 : Int) (q : RS) (h : Ok q) : ∃ p, sA u0 u1 q = some (p, failS (failS (afterR q (rdB q.s q.at_ q.ce 16)) (u0 == 0 || u1 == 0) 3) (pE p != 0) (pE p)) ∧ format_Parse.f (rdB q.s q.at_ q.ce 16).1 = some p ∧ ((afterR q (rdB q.s q.at_ q.ce 16)).ce = 0 → pE p ≠ 2) := by
  have hz := (rdB_ok q.s q.at_ q.ce 16 h.2.1 h.2.2.1).2.2
  obtain ⟨p, e1, e2⟩ := parse_any (rdB q.s q.at_ q.ce 16).1 (by have := h.1; omega)
  refine ⟨p, ?_, e1, fun hc => ?_⟩
  · unfold sA
    refine bind_eq (bytesS_eq q 16 h) ?_
    exact bind_eq e1 rfl
  · rcases e2 (rd16 q h hc) with e | e <;> rw [e] <;> decide
theorem fails_goes (A : RS) (b : Bool) (e : Int) (h : Ok A) (he : A.ce = 0 → e ≠ 2) : Goes A (failS (failS A b 3) (e != 0) e) := by
  by_cases hc : A.ce = 0
  · have g := fail_goes A b 3 (by decide) h
    exact g.trans (fail_goes _ _ e (he hc) g.ok)
  · rw [failS_off A b 3 hc, failS_off A _ e hc]
    exact Goes.refl h
theorem sA_good (u0 u1 : Int) : Good Any (sA u0 u1) := fun q h => by
  obtain ⟨p, e1, _, e3⟩ := sA_step u0 u1 q h
  have g := rd_goes q 16 (by decide) h
  exact ⟨p, _, e1, trivial, g.trans (fails_goes _ _ _ g.ok e3)⟩
theorem sA_lock (u0 u1 : Int) : Lock Any (sA u0 u1) := fun t q q' h h' hs => by
  obtain ⟨p, e1, e2, e3⟩ := sA_step u0 u1 q h
  obtain ⟨p', f1, f2, f3⟩ := sA_step u0 u1 q' h'
  have g := rd_goes q 16 (by decide) h
  have g' := rd_goes q' 16 (by decide) h'
  have k := fails_goes _ (u0 == 0 || u1 == 0) _ g.ok e3
  have k' := fails_goes _ (u0 == 0 || u1 == 0) _ g'.ok f3
  refine ⟨p, p', _, _, e1, f1, trivial, trivial, k.ok, k'.ok, k.s.trans g.s, ?_⟩
  rcases rd_lock t q q' 16 (by decide) h h' hs with ⟨hs2, hc⟩ | hoff
  · rw [← hc, e2] at f2
    obtain rfl := Option.some.inj f2
    obtain ⟨_, _, a, a', x1, x2, _, _, o1, o2, _, y⟩ := fail_lock (u0 == 0 || u1 == 0) 3 (by decide) t _ _ g.ok g'.ok hs2
    obtain ⟨_, rfl⟩ := Prod.mk.inj (Option.some.inj x1)
    obtain ⟨_, rfl⟩ := Prod.mk.inj (Option.some.inj x2)
    rcases y with ⟨y, _⟩ | y
    · obtain ⟨_, _, a, a', x1, x2, _, _, o1, o2, _, z⟩ := fail_lock (pE p != 0) (pE p) (e3 hs2.2.2.1) t _ _ o1 o2 y
      obtain ⟨_, rfl⟩ := Prod.mk.inj (Option.some.inj x1)
      obtain ⟨_, rfl⟩ := Prod.mk.inj (Option.some.inj x2)
      exact z.imp (fun ⟨a, _⟩ => ⟨a, rfl⟩) id
    · exact .inr (y.goes (fail_goes _ _ _ (e3 hs2.2.2.1) o1) (fail_goes _ _ _ (e3 hs2.2.2.1) o2))
  · exact .inr (hoff.goes k k')
end Go.Proofs.Ytpackckoblpbfaa.H
