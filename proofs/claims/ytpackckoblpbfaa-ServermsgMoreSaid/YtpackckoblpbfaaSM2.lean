import Derived.Test.YtpackckoblpbfaaOE
import Derived.Test.YtpackckoblpbfaaSM1
import Derived.Test.YtpackckoblpbfaaXx16
/-! A cursor's steps keep what SM1 asks. -/
namespace Go.Proofs.Ytpackckoblpbfaa.H
set_option linter.unusedVariables false
open Go.RowKit Go.Proofs.Ytpackckoblpbfaa.X Go.Proofs.Ytpackckoblpbfaa.B Go.Proofs.Ytpackckoblpbfaa.O Go.Proofs.YtpackckoblpbfaaW.PrintWords Go.Proofs.YtpackckoblpbfaaW.PrintLast Go.Proofs.YtpackckoblpbfaaW.PrintMore
theorem rdB_e {s : ByteArray} {p e n : Int} (he : e ≠ 0) : rdB s p e n = (⟨#[]⟩, p, e) := if_pos he
theorem rdB_m {s : ByteArray} {p n : Int} (hn : 0 ≤ n) (hl : n > (s.size : Int) - p) : rdB s p 0 n = (⟨#[]⟩, p, 2) := by
  unfold rdB
  rw [if_neg (by decide), if_neg (by omega), if_pos hl]
theorem rdB_i {s : ByteArray} {p n : Int} (hn : 0 ≤ n) (hl : ¬ n > (s.size : Int) - p) : rdB s p 0 n = (s.extract p.toNat (p + n).toNat, p + n, 0) := by
  unfold rdB
  rw [if_neg (by decide), if_neg (by omega), if_neg hl]
def afterR (q : RS) (r : ByteArray × Int × Int) : RS := ⟨q.s, r.2.1, r.2.2, q.re⟩
theorem rd_goes (q : RS) (n : Int) (hn : 0 ≤ n) (h : Ok q) : Goes q (afterR q (rdB q.s q.at_ q.ce n)) := by
  obtain ⟨s, p, e, r⟩ := q
  obtain ⟨k1, k2, k3, k4, k5⟩ := h
  by_cases hc : e = 0
  · subst hc
    by_cases hl : n > (s.size : Int) - p
    · show Goes _ (afterR _ (rdB s p 0 n))
      rw [rdB_m hn hl]
      exact ⟨⟨k1, k2, k3, .inr rfl, k5⟩, rfl, fun a => absurd (show (0 : Int) = 2 from a) (by decide), fun L u => .inl (show (2 : Int) ≠ 0 by decide), fun _ => rfl⟩
    · show Goes _ (afterR _ (rdB s p 0 n))
      rw [rdB_i hn hl]
      have k2 : 0 ≤ p := k2
      refine ⟨⟨k1, show 0 ≤ p + n by omega, show p + n ≤ (s.size : Int) by omega, .inl rfl, k5⟩, rfl, fun a => absurd (show (0 : Int) = 2 from a) (by decide), fun L u => ?_, fun _ => rfl⟩
      rcases u with u | u | u
      · exact absurd rfl u
      · exact .inr (.inl u)
      · have u : L < p := u
        exact .inr (.inr (show L < p + n by omega))
  · show Goes _ (afterR _ (rdB s p e n))
    rw [rdB_e hc]
    exact ⟨⟨k1, k2, k3, k4, k5⟩, rfl, fun a b => ⟨a, b⟩, fun L u => u, fun _ => rfl⟩
theorem ext_left (s t : ByteArray) (a b : Nat) (h : b ≤ s.size) : (s ++ t).extract a b = s.extract a b := by
  apply ByteArray.ext
  rw [ByteArray.data_extract, ByteArray.data_extract, ByteArray.data_append]
  apply Array.toList_inj.mp
  have h : b ≤ s.data.toList.length := by rw [Array.length_toList]; exact h
  simp only [Array.toList_extract, Array.toList_append, List.extract_eq_take_drop]
  rcases Nat.le_total a b with hab | hab
  · rw [List.drop_append_of_le_length (by omega), List.take_append_of_le_length (by rw [List.length_drop]; omega)]
  · rw [Nat.sub_eq_zero_of_le hab, List.take_zero, List.take_zero]
theorem rd_lock (t : ByteArray) (q q' : RS) (n : Int) (hn : 0 ≤ n) (h : Ok q) (h' : Ok q') (hs : Sync t q q') :
    (Sync t (afterR q (rdB q.s q.at_ q.ce n)) (afterR q' (rdB q'.s q'.at_ q'.ce n)) ∧ (rdB q.s q.at_ q.ce n).1 = (rdB q'.s q'.at_ q'.ce n).1) ∨ Off (afterR q (rdB q.s q.at_ q.ce n)) (afterR q' (rdB q'.s q'.at_ q'.ce n)) := by
  obtain ⟨s, p, e, r⟩ := q
  obtain ⟨s', p', e', r'⟩ := q'
  obtain ⟨s1, s2, s3, s4, s5, s6⟩ := hs
  obtain ⟨k1, k2, k3, k4, k5⟩ := h
  have s1 : s' = s ++ t := s1
  have s2 : p' = p := s2
  have s3 : e = 0 := s3
  have s4 : e' = 0 := s4
  have s5 : r = 0 := s5
  have s6 : r' = 0 := s6
  have k2 : 0 ≤ p := k2
  have k3 : p ≤ (s.size : Int) := k3
  subst s1 s2 s3 s4 s5 s6
  have hz : (s ++ t).size = s.size + t.size := ByteArray.size_append
  show (Sync t (afterR _ (rdB s p' 0 n)) (afterR _ (rdB (s ++ t) p' 0 n)) ∧ (rdB s p' 0 n).1 = (rdB (s ++ t) p' 0 n).1) ∨ Off (afterR _ (rdB s p' 0 n)) (afterR _ (rdB (s ++ t) p' 0 n))
  by_cases hl : n > (s.size : Int) - p'
  · rw [rdB_m hn hl]
    refine .inr (.inl ⟨rfl, rfl, ?_⟩)
    by_cases hl2 : n > ((s ++ t).size : Int) - p'
    · rw [rdB_m hn hl2]; exact .inl (show (2 : Int) ≠ 0 by decide)
    · rw [rdB_i hn hl2]; exact .inr (.inr (show (s.size : Int) < p' + n by omega))
  · rw [rdB_i hn hl, rdB_i hn (by rw [hz]; omega)]
    refine .inl ⟨⟨rfl, rfl, rfl, rfl, rfl, rfl⟩, ?_⟩
    show s.extract _ _ = (s ++ t).extract _ _
    rw [ext_left s t _ _ (by omega)]
end Go.Proofs.Ytpackckoblpbfaa.H
