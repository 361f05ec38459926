/- A format: the document's Put and Get of a value. No condition. -/
import Derived.Test.YtloigmonfbfieaaFG
import Derived.Test.YtloigmonfbfieaaOAR
import Derived.Test.YtloigmonfbfieaaXx10
import Derived.Test.YtloigmonfbfieaaXx9
namespace Go.Proofs.Ytloigmonfbfieaa.F
open Go.RowKit Go.Proofs.YtloigmonfbfieaaW.PrintWords Go.Proofs.YtloigmonfbfieaaW.PrintLast Go.Proofs.YtloigmonfbfieaaW.PrintMore Go.Proofs.Ytloigmonfbfieaa.B Go.Proofs.Ytloigmonfbfieaa.O
set_option linter.unusedVariables false
set_option linter.unusedSimpArgs false
/-- A value's bytes. -/
def putL (bg : Bool) (v : Int) (z : Nat) : List Int := if bg = true then (leB v z).reverse else leB v z
theorem putL_length (bg : Bool) (v : Int) (z : Nat) : (putL bg v z).length = z := put_length bg v z
theorem putL_range (bg : Bool) (v : Int) (z : Nat) : ∀ x ∈ putL bg v z, 0 ≤ x ∧ x < 256 := put_range bg v z
theorem rturned (l : List Int) (h : ∀ x ∈ l, 0 ≤ x ∧ x < 256) (k : Nat) (hk : l.length < k) (hl : l.length ≤ 1000) : X.miradorref01_Turned.f k (strOfNums l) = some (strOfNums l.reverse) := by
  rw [rTurned_f _ (by rw [strOfNums_size]; omega) (by rw [strOfNums_size]; omega), bytes_str h]
theorem rput_f (k : Nat) (hk : 20 ≤ k) (bg : Bool) (z : Nat) (hz : z ≤ 4) (n : Int) : X.miradorref13_put.f k bg (z : Int) n = some (strOfNums (putL bg n z)) := by
  have key : ∀ (d i k : Nat), i + d = z → d + 8 ≤ k → X.miradorref13_put.l0 k bg (z : Int) (n / 2 ^ (8 * i)) (strOfNums (leB n i)) (i : Int) = some (strOfNums (putL bg n z)) := by
    intro d
    induction d with
    | zero =>
      intro i k hi hk
      obtain ⟨k, rfl⟩ : ∃ q, k = q + 1 := ⟨k - 1, by omega⟩
      obtain rfl : i = z := by omega
      simp only [X.miradorref13_put.l0]
      rw [if_neg (by omega)]
      cases bg with
      | true =>
        rw [if_pos rfl]
        exact bind_eq (rturned _ (leB_range n i) k (by rw [leB_length]; omega) (by rw [leB_length]; omega)) rfl
      | false => rfl
    | succ d ih =>
      intro i k hi hk
      obtain ⟨k, rfl⟩ : ∃ q, k = q + 1 := ⟨k - 1, by omega⟩
      have h := ih (i + 1) k (by omega) (by omega)
      rw [leB_succ] at h
      have e2 : wrap64 ((i : Int) + 1) = ((i + 1 : Nat) : Int) := by rw [w64 (by omega) (by omega)]; push_cast; rfl
      have e3 : n / 2 ^ (8 * i) / 256 = n / 2 ^ (8 * (i + 1)) := by
        rw [show 8 * (i + 1) = 8 * i + 8 by omega, Int.pow_add, Int.ediv_ediv_of_nonneg (Int.le_of_lt (Int.pow_pos (by decide)))]; rfl
      have e4 : Go.bits .and .i64 (n / 2 ^ (8 * i)) 255 % 256 = n / 2 ^ (8 * i) % 256 := by rw [and255]; omega
      simp only [X.miradorref13_put.l0]
      rw [if_pos (by omega), Option.bind_some, e4, if_pos (by rw [strOfNums_size, strOfNums_size, leB_length]; simp; omega), str_append, e2, e3]
      exact h
  unfold X.miradorref13_put.f
  have := key z 0 k (by omega) (by omega)
  rw [show (n / 2 ^ (8 * 0)) = n by simp] at this
  exact this
theorem size_z {n : Int} (h : n = 8 ∨ n = 16 ∨ n = 32) (z : Nat) (hz : n = 8 * z) : wrap64 (Int.tdiv n 8) = (z : Int) := by
  rw [Int.tdiv_eq_ediv_of_nonneg (by omega), w64 (by omega) (by omega)]; omega
theorem rPutF_f {n d : Int} {tr : Bool} {m1 m2 m3 s1 s2 s3 : Int} (hbits : n = 8 ∨ n = 16 ∨ n = 32) (bg : Bool) (k : Nat) (hk : 20 ≤ k) (z : Nat) (hz : n = 8 * z) (v : Int) : X.miradorref13_Put.f k n d bg tr m1 m2 m3 s1 s2 s3 v = some (strOfNums (putL bg v z)) := by
  unfold X.miradorref13_Put.f
  rw [size_z hbits z hz]
  exact bind_eq (rput_f k hk bg z (by omega) v) rfl
theorem rget_f (k : Nat) (hk : 20 ≤ k) (bg : Bool) (z : Nat) (hz : z ≤ 4) (s : ByteArray) (hs : s.size ≤ 4611686018427387904) : X.miradorref13_get.f k bg (z : Int) s = some (if s.size < z then (0, 2) else (beN (ordL bg (bytesOf s) z), 0)) := by
  unfold X.miradorref13_get.f
  by_cases hlt : s.size < z
  · rw [if_pos (by omega), if_pos hlt]
  · rw [if_neg (by omega), if_neg hlt]
    have hx : bytesOf (s.extract 0 ((z : Int)).toNat) = (bytesOf s).take z := by rw [bytes_extract, Int.toNat_natCast, List.drop_zero]
    have hxs : (s.extract 0 ((z : Int)).toNat).size ≤ 4 := by rw [ba_size_extract]; omega
    cases bg with
    | true =>
      rw [if_pos rfl, if_pos (by omega), if_pos (by omega)]
      refine bind_eq (rInt_f (by omega) _ hxs) ?_
      rw [hx]; rfl
    | false =>
      rw [if_neg (by decide), if_pos (by omega), if_pos (by omega)]
      refine bind_eq (rTurned_f _ (by omega) (by omega)) ?_
      rw [hx]
      have hr : ∀ x ∈ ((bytesOf s).take z).reverse, 0 ≤ x ∧ x < 256 := fun x hx => bytes_range s x (List.mem_of_mem_take (List.mem_reverse.mp hx))
      refine bind_eq (rInt_f (by omega) _ (by rw [strOfNums_size, List.length_reverse, List.length_take]; omega)) ?_
      rw [bytes_str hr]; rfl
theorem rGetF_f {n d : Int} {tr : Bool} {m1 m2 m3 s1 s2 s3 : Int} (hbits : n = 8 ∨ n = 16 ∨ n = 32) (bg : Bool) (k : Nat) (hk : 20 ≤ k) (z : Nat) (hz : n = 8 * z) (s : ByteArray) (hs : s.size ≤ 4611686018427387904) : X.miradorref13_Get.f k n d bg tr m1 m2 m3 s1 s2 s3 s = some (if s.size < z then (0, 2) else (beN (ordL bg (bytesOf s) z), 0)) := by
  unfold X.miradorref13_Get.f
  rw [size_z hbits z hz]
  exact bind_eq (rget_f k hk bg z (by omega) s hs) rfl
end Go.Proofs.Ytloigmonfbfieaa.F
