/- A format's sixteen bytes, in plain lists: the program's function. No condition. -/
import Derived.Test.YtclikkhkhoicfaaFM2A
import Derived.Test.YtclikkhkhoicfaaOA
import Derived.Test.YtclikkhkhoicfaaXx13
namespace Go.Proofs.Ytclikkhkhoicfaa.F
open Go.RowKit Go.Proofs.YtclikkhkhoicfaaW.PrintWords Go.Proofs.YtclikkhkhoicfaaW.PrintLast Go.Proofs.YtclikkhkhoicfaaW.PrintMore Go.Proofs.Ytclikkhkhoicfaa.B Go.Proofs.Ytclikkhkhoicfaa.O
set_option linter.unusedVariables false
set_option linter.unusedSimpArgs false
/-- Numbers as bytes, one behind the other, if all fit. -/
def pieces : List (Int × Int) → Option (List Int)
  | [] => some []
  | (z, n) :: l => if fits z n then (pieces l).map (beL z n ++ ·) else none
/-- Numbers as bytes, or nothing. -/
def joined (l : List (Int × Int)) (xs : List Int) : ByteArray := match pieces l with
  | none => ⟨#[]⟩
  | some ys => strOfNums (xs ++ ys ++ [0, 0, 0])
theorem joined_cons {z n : Int} {l : List (Int × Int)} {xs : List Int} (h : fits z n) : joined ((z, n) :: l) xs = joined l (xs ++ beL z n) := by
  unfold joined
  simp only [pieces, if_pos h]
  cases pieces l with
  | none => rfl
  | some ys => simp [List.append_assoc]
theorem joined_stop {z n : Int} {l : List (Int × Int)} {xs : List Int} (h : ¬ fits z n) : joined ((z, n) :: l) xs = ⟨#[]⟩ := by
  unfold joined
  simp only [pieces, if_neg h]
theorem beL_len4 {z n : Int} (h : fits z n) : (beL z n).length ≤ 4 := by
  have := beL_length h
  rcases h with ⟨rfl, _⟩ | ⟨rfl, _⟩ | ⟨rfl, _⟩ <;> omega
theorem bF_f : ∀ (l : List (Int × Int)) (xs : List Int), xs.length + 4 * l.length ≤ 1000 → X.format_bF l (strOfNums xs) = some (joined l xs)
  | [], xs, h => by
    simp only [X.format_bF]
    rw [if_pos (by rw [strOfNums_size]; simp at h; omega)]
    unfold joined
    simp only [pieces, List.append_nil]
    rw [← str_append]; rfl
  | (z, n) :: l, xs, h => by
    simp only [List.length_cons] at h
    simp only [X.format_bF]
    refine bind_eq (Put_f (by omega) _ _) ?_
    by_cases hf : fits z n
    · have h4 := beL_len4 hf
      rw [if_pos hf, if_pos rfl, if_pos (by rw [strOfNums_size, strOfNums_size]; omega), str_append, bF_f l _ (by rw [List.length_append]; omega), joined_cons hf]
    · rw [if_neg hf, if_neg (by simp), joined_stop hf]
theorem bytes_f (n d : Int) (bg tr : Bool) (m1 m2 m3 s1 s2 s3 : Int) : X.format_Bytes.f n d bg tr m1 m2 m3 s1 s2 s3 = some (joined (X.format_tens n d m1 m2 m3 s1 s2 s3 (X.format_bitI bg) (X.format_bitI tr)) []) := by
  unfold X.format_Bytes.f
  rw [← str_nil]
  exact bF_f _ _ (by unfold X.format_tens; simp)
/-- A format's bytes, if it may be. -/
def bytesL (n d : Int) (bg tr : Bool) (m1 m2 m3 s1 s2 s3 : Int) : List Int := [n, d, X.format_bitI bg, X.format_bitI tr, m1 / 256, m1 % 256, m2 / 256, m2 % 256, m3 / 256, m3 % 256, s1, s2, s3, 0, 0, 0]
theorem fits1 {n : Int} (h : 0 ≤ n ∧ n < 256) : fits 1 n := .inl ⟨rfl, h⟩
theorem fits2 {n : Int} (h : 0 ≤ n ∧ n < 65536) : fits 2 n := .inr (.inl ⟨rfl, h⟩)
theorem bitI_bd (b : Bool) : 0 ≤ X.format_bitI b ∧ X.format_bitI b < 256 := by cases b <;> decide
theorem okP_s {n m s : Int} (hn : n ≤ 32) (h : okP n m s) : 0 ≤ s ∧ s < 256 := by
  obtain ⟨k, S, hM, rfl, hs⟩ := h
  have := hM.1
  omega
theorem okP_m {n m s : Int} (h : okP n m s) : 0 ≤ m ∧ m < 65536 := by
  obtain ⟨_, _, h, _⟩ := h
  have := isM_bd h
  omega
theorem bytes_valid {n d : Int} {tr : Bool} {m1 m2 m3 s1 s2 s3 : Int} (hv : Vd n d tr m1 m2 m3 s1 s2 s3) (bg : Bool) : X.format_Bytes.f n d bg tr m1 m2 m3 s1 s2 s3 = some (strOfNums (bytesL n d bg tr m1 m2 m3 s1 s2 s3)) := by
  have hn : n ≤ 32 := by have := hv.bits; omega
  have hn0 : 0 ≤ n ∧ n < 256 := by have := hv.bits; omega
  have hd0 : 0 ≤ d ∧ d < 256 := by have := hv.depth; omega
  rw [bytes_f]
  unfold X.format_tens
  rw [joined_cons (fits1 hn0), joined_cons (fits1 hd0), joined_cons (fits1 (bitI_bd bg)), joined_cons (fits1 (bitI_bd tr)), joined_cons (fits2 (okP_m hv.p1)), joined_cons (fits2 (okP_m hv.p2)), joined_cons (fits2 (okP_m hv.p3)), joined_cons (fits1 (okP_s hn hv.p1)), joined_cons (fits1 (okP_s hn hv.p2)), joined_cons (fits1 (okP_s hn hv.p3))]
  unfold joined bytesL
  simp [pieces, beL]
end Go.Proofs.Ytclikkhkhoicfaa.F
