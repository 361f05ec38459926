/- A format's parts: which may be. No condition. -/
import Derived.Test.YtclikkhkhoicfaaXx9
import Derived.Test.YtclikkhkhoicfaaXx8
import Derived.Test.YtclikkhkhoicfaaXx26
import Derived.Test.YtclikkhkhoicfaaXx7
import Derived.Test.YtclikkhkhoicfaaB0
namespace Go.Proofs.Ytclikkhkhoicfaa.F
open Go.RowKit Go.Proofs.YtclikkhkhoicfaaW.PrintWords Go.Proofs.YtclikkhkhoicfaaW.PrintLast Go.Proofs.YtclikkhkhoicfaaW.PrintMore Go.Proofs.Ytclikkhkhoicfaa.B
set_option linter.unusedVariables false
set_option linter.unusedSimpArgs false
/-- A part's greatest value, of k bits. -/
def isM (m : Int) (k : Nat) : Prop := 1 ≤ k ∧ k ≤ 16 ∧ m = ((2 ^ k - 1 : Nat) : Int)
theorem pow_le16 {i : Nat} (h : i ≤ 16) : 2 ^ i ≤ 65536 := Nat.le_trans (Nat.pow_le_pow_right (by decide) h) (by decide)
theorem isM_bd {m : Int} {k : Nat} (h : isM m k) : 1 ≤ m ∧ m ≤ 65535 := by
  have h1 := pow_le16 h.2.1
  have h2 : 2 ^ 1 ≤ 2 ^ k := Nat.pow_le_pow_right (by decide) h.1
  obtain ⟨_, _, h3⟩ := h
  omega
theorem isM_inj {m : Int} {k j : Nat} (h : isM m k) (h' : isM m j) : k = j := by
  have h1 : 2 ^ k = 2 ^ j := by
    have a := Nat.two_pow_pos k
    have b := Nat.two_pow_pos j
    have := h.2.2.symm.trans h'.2.2
    omega
  rcases Nat.lt_trichotomy k j with h | h | h
  · have := Nat.pow_lt_pow_right (show 1 < 2 by decide) h; omega
  · exact h
  · have := Nat.pow_lt_pow_right (show 1 < 2 by decide) h; omega
theorem width_l (m : Int) : ∀ (d i K : Nat), i + d = 17 → d < K → 1 ≤ i → (∀ k, k < i → ¬ isM m k) → (∃ k, isM m k ∧ X.miradorref13_Width.l0 K m ((2 ^ (i - 1) : Nat) : Int) i = some (k : Int)) ∨ ((∀ k, ¬ isM m k) ∧ X.miradorref13_Width.l0 K m ((2 ^ (i - 1) : Nat) : Int) i = some 0) := by
  intro d
  induction d with
  | zero =>
    intro i K hi hK h1 hn
    obtain ⟨K, rfl⟩ : ∃ q, K = q + 1 := ⟨K - 1, by omega⟩
    right
    refine ⟨fun k hk => hn k (by have := hk.2.1; omega) hk, ?_⟩
    simp only [X.miradorref13_Width.l0]
    rw [if_neg (by omega)]
  | succ d ih =>
    intro i K hi hK h1 hn
    obtain ⟨K, rfl⟩ : ∃ q, K = q + 1 := ⟨K - 1, by omega⟩
    have hp := pow_le16 (show i ≤ 16 by omega)
    have hp2 : 2 ^ i = 2 ^ (i - 1) * 2 := by rw [← Nat.pow_succ]; congr 1; omega
    have e1 : wrap64 (((2 ^ (i - 1) : Nat) : Int) * 2) = ((2 ^ i : Nat) : Int) := by rw [w64 (by omega) (by omega), hp2]; push_cast; rfl
    have hpos := Nat.two_pow_pos i
    have e2 : wrap64 (((2 ^ i : Nat) : Int) - 1) = ((2 ^ i - 1 : Nat) : Int) := by rw [w64 (by omega) (by omega)]; omega
    have e3 : wrap64 ((i : Int) + 1) = ((i + 1 : Nat) : Int) := by rw [w64 (by omega) (by omega)]; push_cast; rfl
    simp only [X.miradorref13_Width.l0]
    rw [if_pos (by omega), e1, e2, e3]
    by_cases hm : m = ((2 ^ i - 1 : Nat) : Int)
    · rw [if_pos hm]
      exact .inl ⟨i, ⟨h1, by omega, hm⟩, rfl⟩
    · rw [if_neg hm]
      exact ih (i + 1) K (by omega) (by omega) (by omega) (fun k hk hM => by
        by_cases hki : k = i
        · subst hki; exact hm hM.2.2
        · exact hn k (by omega) hM)
theorem width_f (K : Nat) (hK : 20 ≤ K) (m : Int) : (∃ k, isM m k ∧ X.miradorref13_Width.f K m = some (k : Int)) ∨ ((∀ k, ¬ isM m k) ∧ X.miradorref13_Width.f K m = some 0) :=
  width_l m 16 1 K (by omega) (by omega) (Nat.le_refl _) (fun k hk h => by have := h.1; omega)
/-- All numbers of d bits from i on. -/
def allB (p : Nat → Bool) : Nat → Nat → Bool
  | 0, i => p i
  | d + 1, i => allB p d i && allB p d (i + 2 ^ d)
theorem allB_spec (p : Nat → Bool) : ∀ (d i : Nat), allB p d i = true → ∀ j, i ≤ j → j < i + 2 ^ d → p j = true
  | 0, i, h, j, h1, h2 => by obtain rfl : j = i := by simp at h2; omega
                             exact h
  | d + 1, i, h, j, h1, h2 => by
    simp only [allB, Bool.and_eq_true] at h
    rw [Nat.pow_succ] at h2
    by_cases hj : j < i + 2 ^ d
    · exact allB_spec p d i h.1 j h1 hj
    · exact allB_spec p d (i + 2 ^ d) h.2 j (by omega) (by omega)
def chk (m : Nat) : Bool := (m &&& (m + 1) != 0) || (m + 1 == 2 ^ (Nat.log2 m + 1)) || (m == 0)
theorem chk_all : allB chk 16 0 = true := by decide +kernel
theorem chk_m (M : Nat) (h0 : 1 ≤ M) (h1 : M ≤ 65535) (hz : M &&& (M + 1) = 0) : ∃ k, isM (M : Int) k := by
  have h := allB_spec chk 16 0 chk_all M (by omega) (by omega)
  unfold chk at h
  simp only [Bool.or_eq_true, bne_iff_ne, ne_eq, beq_iff_eq] at h
  have h2 : M + 1 = 2 ^ (Nat.log2 M + 1) := by
    rcases h with (h | h) | h
    · exact absurd hz h
    · exact h
    · omega
  refine ⟨Nat.log2 M + 1, by omega, ?_, by omega⟩
  rcases Nat.lt_or_ge (Nat.log2 M) 16 with h3 | h3
  · omega
  · have := Nat.pow_le_pow_right (show 0 < 2 by decide) (show 17 ≤ Nat.log2 M + 1 by omega)
    omega
theorem isM_cases {m : Int} {k : Nat} (h : isM m k) (P : Int → Nat → Prop) (hP : ∀ j, 1 ≤ j → j ≤ 16 → P ((2 ^ j - 1 : Nat) : Int) j) : P m k := by
  obtain ⟨h1, h2, rfl⟩ := h
  exact hP k h1 h2
theorem and_succ (j : Nat) (h1 : 1 ≤ j) (h2 : j ≤ 16) : (2 ^ j - 1) &&& (2 ^ j - 1 + 1) = 0 ∧ Lib.bitLen (2 ^ j - 1) = j := by
  rcases (show j = 1 ∨ j = 2 ∨ j = 3 ∨ j = 4 ∨ j = 5 ∨ j = 6 ∨ j = 7 ∨ j = 8 ∨ j = 9 ∨ j = 10 ∨ j = 11 ∨ j = 12 ∨ j = 13 ∨ j = 14 ∨ j = 15 ∨ j = 16 by omega) with rfl | rfl | rfl | rfl | rfl | rfl | rfl | rfl | rfl | rfl | rfl | rfl | rfl | rfl | rfl | rfl <;> decide +kernel
theorem wrapsI (n : Int) (h0 : 0 ≤ n) (h1 : n < 2 ^ 62) : IntKind.i64.wrap n = n := by rw [IntKind.wrap_i64]; omega
theorem andI (a b : Nat) (ha : a < 2 ^ 62) (hb : b < 2 ^ 62) : Go.bits .and .i64 (a : Int) (b : Int) = ((a &&& b : Nat) : Int) := (bits_nat .i64 62 (by decide) wrapsI a b ha hb).1
theorem orI (a b : Nat) (ha : a < 2 ^ 62) (hb : b < 2 ^ 62) : Go.bits .or .i64 (a : Int) (b : Int) = ((a ||| b : Nat) : Int) := (bits_nat .i64 62 (by decide) wrapsI a b ha hb).2
/-- May a part be, of a value of n bits? -/
def okP (n m s : Int) : Prop := ∃ k S : Nat, isM m k ∧ s = S ∧ (S : Int) + k ≤ n
theorem right_f (m s n : Int) (hn : 0 ≤ n ∧ n ≤ 32) : ∃ b, X.format_part_right.f m s n = some b ∧ (b = true ↔ okP n m s) := by
  unfold X.format_part_right.f
  by_cases h1 : m < 1
  · rw [if_pos h1]
    exact ⟨false, rfl, by simp, fun ⟨k, S, hM, _⟩ => by have := isM_bd hM; omega⟩
  · by_cases h2 : m > 65535
    · rw [if_neg h1, if_pos h2]
      exact ⟨false, rfl, by simp, fun ⟨k, S, hM, _⟩ => by have := isM_bd hM; omega⟩
    · rw [if_neg h1, if_neg h2]
      obtain ⟨M, rfl⟩ : ∃ M : Nat, m = M := ⟨m.toNat, by omega⟩
      have e1 : wrap64 ((M : Int) + 1) = ((M + 1 : Nat) : Int) := by rw [w64 (by omega) (by omega)]; push_cast; rfl
      rw [e1, andI M (M + 1) (by omega) (by omega)]
      by_cases hz : M &&& (M + 1) = 0
      · rw [if_pos (by rw [hz]; rfl)]
        obtain ⟨k, hk⟩ := chk_m M (by omega) (by omega) hz
        by_cases hs : s < 0
        · rw [if_pos hs]
          exact ⟨false, rfl, by simp, fun ⟨k', S, hM, h, _⟩ => by omega⟩
        · by_cases hsn : s > n
          · rw [if_neg hs, if_pos hsn]
            exact ⟨false, rfl, by simp, fun ⟨k', S, hM, h, h'⟩ => by omega⟩
          · rw [if_neg hs, if_neg hsn]
            have e2 : IntKind.u64.wrap (M : Int) = M := by rw [IntKind.wrap_u64]; omega
            have hbl : Lib.bitLen M = k := by
              have h3 := (and_succ k hk.1 hk.2.1).2
              have h4 := hk.2.2
              rw [show M = 2 ^ k - 1 by omega]; exact h3
            unfold X.bits_Len.f
            rw [e2, if_pos (by omega), Int.toNat_natCast, hbl]
            simp only [Option.bind_some]
            rw [w64 (by have := hk.2.1; omega) (by have := hk.2.1; omega)]
            refine ⟨_, rfl, ?_⟩
            rw [decide_eq_true_iff]
            constructor
            · intro h
              exact ⟨k, s.toNat, hk, by omega, by omega⟩
            · rintro ⟨k', S, hM, h, h'⟩
              have := isM_inj hM hk
              subst this
              omega
      · rw [if_neg (by omega)]
        refine ⟨false, rfl, by simp, ?_⟩
        rintro ⟨k, S, hM, _, _⟩
        have h3 := (and_succ k hM.1 hM.2.1).1
        have h4 := hM.2.2
        rw [show M = 2 ^ k - 1 by omega] at hz
        exact absurd h3 hz
theorem part_f (K : Nat) (hK : 20 ≤ K) (m s n : Int) (hn : 0 ≤ n ∧ n ≤ 32) : ∃ b, X.miradorref13_part.f K n m s = some b ∧ (b = true ↔ okP n m s) := by
  unfold X.miradorref13_part.f
  rcases width_f K hK m with ⟨k, hM, hw⟩ | ⟨hno, hw⟩
  · rw [hw]
    simp only [Option.bind_some]
    rw [if_pos (by have := hM.1; omega)]
    by_cases h1 : s ≥ 0
    · by_cases h2 : s ≤ 32
      · rw [if_pos h1, if_pos h2, w64 (by have := hM.2.1; omega) (by have := hM.2.1; omega)]
        refine ⟨_, rfl, ?_⟩
        rw [decide_eq_true_iff]
        constructor
        · intro h
          exact ⟨k, s.toNat, hM, by omega, by omega⟩
        · rintro ⟨k', S, hM', h, h'⟩
          have := isM_inj hM' hM
          subst this
          omega
      · rw [if_pos h1, if_neg h2]
        exact ⟨false, rfl, by simp, fun ⟨k', S, hM', h, h'⟩ => by omega⟩
    · rw [if_neg h1]
      exact ⟨false, rfl, by simp, fun ⟨k', S, hM', h, h'⟩ => by omega⟩
  · rw [hw]
    exact ⟨false, rfl, by simp, fun ⟨k', S, hM', h, h'⟩ => absurd hM' (hno k')⟩
end Go.Proofs.Ytclikkhkhoicfaa.F
