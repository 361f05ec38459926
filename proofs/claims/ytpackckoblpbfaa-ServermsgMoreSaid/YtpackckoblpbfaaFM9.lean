/- A format's sixteen bytes, and the format of bytes, in plain lists: the program's functions. No condition. -/
import Derived.Test.YtpackckoblpbfaaFM2
import Derived.Test.YtpackckoblpbfaaOE
import Derived.Test.YtpackckoblpbfaaXx11
import Derived.Test.YtpackckoblpbfaaXx19
namespace Go.Proofs.Ytpackckoblpbfaa.F
open Go.RowKit Go.Proofs.YtpackckoblpbfaaW.PrintWords Go.Proofs.YtpackckoblpbfaaW.PrintLast Go.Proofs.YtpackckoblpbfaaW.PrintMore Go.Proofs.Ytpackckoblpbfaa.B Go.Proofs.Ytpackckoblpbfaa.O
set_option linter.unusedVariables false
set_option linter.unusedSimpArgs false
/-- Numbers as bytes, one behind the other, if all fit. -/
def pieces : List (Int × Int) → Option (List Int)
  | [] => some []
  | (z, n) :: l => if fits z n then (pieces l).map (beL z n ++ ·) else none
/-- Numbers as bytes, or nothing. -/
def joined (l : List (Int × Int)) (xs : List Int) : ByteArray := match pieces l with
  | none => ⟨#[]⟩
  | some ys => strOfNums (xs ++ ys ++ [0, 0, 0])
theorem joined_cons {z n : Int} {l : List (Int × Int)} {xs : List Int} (h : fits z n) : joined ((z, n) :: l) xs = joined l (xs ++ beL z n) := by
  unfold joined
  simp only [pieces, if_pos h]
  cases pieces l with
  | none => rfl
  | some ys => simp [List.append_assoc]
theorem joined_stop {z n : Int} {l : List (Int × Int)} {xs : List Int} (h : ¬ fits z n) : joined ((z, n) :: l) xs = ⟨#[]⟩ := by
  unfold joined
  simp only [pieces, if_neg h]
theorem beL_len4 {z n : Int} (h : fits z n) : (beL z n).length ≤ 4 := by
  have := beL_length h
  rcases h with ⟨rfl, _⟩ | ⟨rfl, _⟩ | ⟨rfl, _⟩ <;> omega
theorem bF_f : ∀ (l : List (Int × Int)) (xs : List Int), xs.length + 4 * l.length ≤ 1000 → X.format_bF l (strOfNums xs) = some (joined l xs)
  | [], xs, h => by
    simp only [X.format_bF]
    rw [if_pos (by rw [strOfNums_size]; simp at h; omega)]
    unfold joined
    simp only [pieces, List.append_nil]
    rw [← str_append]; rfl
  | (z, n) :: l, xs, h => by
    simp only [List.length_cons] at h
    simp only [X.format_bF]
    refine bind_eq (Put_f (by omega) _ _) ?_
    by_cases hf : fits z n
    · have h4 := beL_len4 hf
      rw [if_pos hf, if_pos rfl, if_pos (by rw [strOfNums_size, strOfNums_size]; omega), str_append, bF_f l _ (by rw [List.length_append]; omega), joined_cons hf]
    · rw [if_neg hf, if_neg (by simp), joined_stop hf]
theorem bytes_f (n d : Int) (bg tr : Bool) (m1 m2 m3 s1 s2 s3 : Int) : X.format_Bytes.f n d bg tr m1 m2 m3 s1 s2 s3 = some (joined (X.format_tens n d m1 m2 m3 s1 s2 s3 (X.format_bitI bg) (X.format_bitI tr)) []) := by
  unfold X.format_Bytes.f
  rw [← str_nil]
  exact bF_f _ _ (by unfold X.format_tens; simp)
/-- A format's bytes, if it may be. -/
def bytesL (n d : Int) (bg tr : Bool) (m1 m2 m3 s1 s2 s3 : Int) : List Int := [n, d, X.format_bitI bg, X.format_bitI tr, m1 / 256, m1 % 256, m2 / 256, m2 % 256, m3 / 256, m3 % 256, s1, s2, s3, 0, 0, 0]
theorem fits1 {n : Int} (h : 0 ≤ n ∧ n < 256) : fits 1 n := .inl ⟨rfl, h⟩
theorem fits2 {n : Int} (h : 0 ≤ n ∧ n < 65536) : fits 2 n := .inr (.inl ⟨rfl, h⟩)
theorem bitI_bd (b : Bool) : 0 ≤ X.format_bitI b ∧ X.format_bitI b < 256 := by cases b <;> decide
theorem okP_s {n m s : Int} (hn : n ≤ 32) (h : okP n m s) : 0 ≤ s ∧ s < 256 := by
  obtain ⟨k, S, hM, rfl, hs⟩ := h
  have := hM.1
  omega
theorem okP_m {n m s : Int} (h : okP n m s) : 0 ≤ m ∧ m < 65536 := by
  obtain ⟨_, _, h, _⟩ := h
  have := isM_bd h
  omega
theorem bytes_valid {n d : Int} {tr : Bool} {m1 m2 m3 s1 s2 s3 : Int} (hv : Vd n d tr m1 m2 m3 s1 s2 s3) (bg : Bool) : X.format_Bytes.f n d bg tr m1 m2 m3 s1 s2 s3 = some (strOfNums (bytesL n d bg tr m1 m2 m3 s1 s2 s3)) := by
  have hn : n ≤ 32 := by have := hv.bits; omega
  have hn0 : 0 ≤ n ∧ n < 256 := by have := hv.bits; omega
  have hd0 : 0 ≤ d ∧ d < 256 := by have := hv.depth; omega
  rw [bytes_f]
  unfold X.format_tens
  rw [joined_cons (fits1 hn0), joined_cons (fits1 hd0), joined_cons (fits1 (bitI_bd bg)), joined_cons (fits1 (bitI_bd tr)), joined_cons (fits2 (okP_m hv.p1)), joined_cons (fits2 (okP_m hv.p2)), joined_cons (fits2 (okP_m hv.p3)), joined_cons (fits1 (okP_s hn hv.p1)), joined_cons (fits1 (okP_s hn hv.p2)), joined_cons (fits1 (okP_s hn hv.p3))]
  unfold joined bytesL
  simp [pieces, beL]
/-! Parse. -/
theorem parse_short (s : ByteArray) (hs : s.size < 16) : X.format_Parse.f s = some (0, 0, false, false, 0, 0, 0, 0, 0, 0, 2) := by
  have hs' : s.size ≤ 4611686018427387904 := by omega
  unfold X.format_Parse.f
  refine bind_eq (show X.octets_New.f s = some (s, 0, 0) from rfl) ?_
  obtain ⟨v1, p1, e1, q1, a1, b1, c1, d1⟩ := int_any s hs' 0 0 1 (by omega) (by omega) (.inl rfl) (by omega)
  obtain ⟨v2, p2, e2, q2, a2, b2, c2, d2⟩ := int_any s hs' p1 e1 1 a1 b1 c1 (by omega)
  obtain ⟨v3, p3, e3, q3, a3, b3, c3, d3⟩ := int_any s hs' p2 e2 1 a2 b2 c2 (by omega)
  obtain ⟨v4, p4, e4, q4, a4, b4, c4, d4⟩ := int_any s hs' p3 e3 1 a3 b3 c3 (by omega)
  obtain ⟨v5, p5, e5, q5, a5, b5, c5, d5⟩ := int_any s hs' p4 e4 2 a4 b4 c4 (by omega)
  obtain ⟨v6, p6, e6, q6, a6, b6, c6, d6⟩ := int_any s hs' p5 e5 2 a5 b5 c5 (by omega)
  obtain ⟨v7, p7, e7, q7, a7, b7, c7, d7⟩ := int_any s hs' p6 e6 2 a6 b6 c6 (by omega)
  obtain ⟨v8, p8, e8, q8, a8, b8, c8, d8⟩ := int_any s hs' p7 e7 1 a7 b7 c7 (by omega)
  obtain ⟨v9, p9, e9, q9, a9, b9, c9, d9⟩ := int_any s hs' p8 e8 1 a8 b8 c8 (by omega)
  obtain ⟨v10, p10, e10, q10, a10, b10, c10, d10⟩ := int_any s hs' p9 e9 1 a9 b9 c9 (by omega)
  obtain ⟨v11, p11, e11, q11, a11, b11, c11, d11⟩ := bytes_any s hs' p10 e10 3 a10 b10 c10 (by omega)
  have hne : e11 = 2 := by
    rcases c11 with h | h
    · obtain ⟨h10, r10⟩ := d11 h
      obtain ⟨h9, r9⟩ := d10 h10
      obtain ⟨h8, r8⟩ := d9 h9
      obtain ⟨h7, r7⟩ := d8 h8
      obtain ⟨h6, r6⟩ := d7 h7
      obtain ⟨h5, r5⟩ := d6 h6
      obtain ⟨h4, r4⟩ := d5 h5
      obtain ⟨h3, r3⟩ := d4 h4
      obtain ⟨h2, r2⟩ := d3 h3
      obtain ⟨h1, r1⟩ := d2 h2
      obtain ⟨h0, r0⟩ := d1 h1
      omega
    · exact h
  subst hne
  refine bind_eq q1 ?_
  refine bind_eq q2 ?_
  refine bind_eq q3 ?_
  refine bind_eq q4 ?_
  refine bind_eq q5 ?_
  refine bind_eq q6 ?_
  refine bind_eq q7 ?_
  refine bind_eq q8 ?_
  refine bind_eq q9 ?_
  refine bind_eq q10 ?_
  refine bind_eq q11 ?_
  refine bind_eq (show X.octets_Cursor_Err.f s p11 2 = some (2, s, p11, 2) from rfl) ?_
  rw [if_neg (show ¬ ((2 : Int) = 0) by decide)]
  exact bind_eq (show X.octets_Cursor_Err.f s p11 2 = some (2, s, p11, 2) from rfl) rfl
theorem parse_long (s : ByteArray) (hs : s.size ≤ 4611686018427387904) (h16 : 16 ≤ s.size) (l : List Int) (hl : bytesOf s = l) (b : Bool)
    (hb : X.format_Valid.f (l.getD 0 0) (l.getD 1 0) (l.getD 2 0 != 0) (l.getD 3 0 != 0) (l.getD 4 0 * 256 + l.getD 5 0) (l.getD 6 0 * 256 + l.getD 7 0) (l.getD 8 0 * 256 + l.getD 9 0) (l.getD 10 0) (l.getD 11 0) (l.getD 12 0) = some b) :
    X.format_Parse.f s = some (if b = true then (l.getD 0 0, l.getD 1 0, (l.getD 2 0 != 0), (l.getD 3 0 != 0), l.getD 4 0 * 256 + l.getD 5 0, l.getD 6 0 * 256 + l.getD 7 0, l.getD 8 0 * 256 + l.getD 9 0, l.getD 10 0, l.getD 11 0, l.getD 12 0, 0) else (0, 0, false, false, 0, 0, 0, 0, 0, 0, 130)) := by
  subst hl
  have q1 := int1_ok s hs 0 (by omega)
  have q2 := int1_ok s hs 1 (by omega)
  have q3 := int1_ok s hs 2 (by omega)
  have q4 := int1_ok s hs 3 (by omega)
  have q5 := int2_ok s hs 4 (by omega)
  have q6 := int2_ok s hs 6 (by omega)
  have q7 := int2_ok s hs 8 (by omega)
  have q8 := int1_ok s hs 10 (by omega)
  have q9 := int1_ok s hs 11 (by omega)
  have q10 := int1_ok s hs 12 (by omega)
  have q11 := bytes_ok s hs 13 3 (by omega)
  unfold X.format_Parse.f
  refine bind_eq (show X.octets_New.f s = some (s, 0, 0) from rfl) ?_
  refine bind_eq q1 ?_
  refine bind_eq q2 ?_
  refine bind_eq q3 ?_
  refine bind_eq q4 ?_
  refine bind_eq q5 ?_
  refine bind_eq q6 ?_
  refine bind_eq q7 ?_
  refine bind_eq q8 ?_
  refine bind_eq q9 ?_
  refine bind_eq q10 ?_
  refine bind_eq q11 ?_
  refine bind_eq (show X.octets_Cursor_Err.f s ((13 + 3 : Nat) : Int) 0 = some (0, s, ((13 + 3 : Nat) : Int), 0) from rfl) ?_
  rw [if_pos rfl]
  refine bind_eq hb ?_
  cases b <;> rfl
end Go.Proofs.Ytpackckoblpbfaa.F
