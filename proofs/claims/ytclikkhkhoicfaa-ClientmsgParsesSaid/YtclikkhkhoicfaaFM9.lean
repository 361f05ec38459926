/- The format of bytes, in plain lists: the program's function. No condition. -/
import Derived.Test.YtclikkhkhoicfaaFM9A
import Derived.Test.YtclikkhkhoicfaaOE
import Derived.Test.YtclikkhkhoicfaaXx13
import Derived.Test.YtclikkhkhoicfaaXx16
namespace Go.Proofs.Ytclikkhkhoicfaa.F
open Go.RowKit Go.Proofs.YtclikkhkhoicfaaW.PrintWords Go.Proofs.YtclikkhkhoicfaaW.PrintLast Go.Proofs.YtclikkhkhoicfaaW.PrintMore Go.Proofs.Ytclikkhkhoicfaa.B Go.Proofs.Ytclikkhkhoicfaa.O
set_option linter.unusedVariables false
set_option linter.unusedSimpArgs false
/-! Parse. -/
theorem parse_short (s : ByteArray) (hs : s.size < 16) : X.format_Parse.f s = some (0, 0, false, false, 0, 0, 0, 0, 0, 0, 2) := by
  have hs' : s.size ≤ 4611686018427387904 := by omega
  unfold X.format_Parse.f
  refine bind_eq (show X.octets_New.f s = some (s, 0, 0) from rfl) ?_
  obtain ⟨v1, p1, e1, q1, a1, b1, c1, d1⟩ := int_any s hs' 0 0 1 (by omega) (by omega) (.inl rfl) (by omega)
  obtain ⟨v2, p2, e2, q2, a2, b2, c2, d2⟩ := int_any s hs' p1 e1 1 a1 b1 c1 (by omega)
  obtain ⟨v3, p3, e3, q3, a3, b3, c3, d3⟩ := int_any s hs' p2 e2 1 a2 b2 c2 (by omega)
  obtain ⟨v4, p4, e4, q4, a4, b4, c4, d4⟩ := int_any s hs' p3 e3 1 a3 b3 c3 (by omega)
  obtain ⟨v5, p5, e5, q5, a5, b5, c5, d5⟩ := int_any s hs' p4 e4 2 a4 b4 c4 (by omega)
  obtain ⟨v6, p6, e6, q6, a6, b6, c6, d6⟩ := int_any s hs' p5 e5 2 a5 b5 c5 (by omega)
  obtain ⟨v7, p7, e7, q7, a7, b7, c7, d7⟩ := int_any s hs' p6 e6 2 a6 b6 c6 (by omega)
  obtain ⟨v8, p8, e8, q8, a8, b8, c8, d8⟩ := int_any s hs' p7 e7 1 a7 b7 c7 (by omega)
  obtain ⟨v9, p9, e9, q9, a9, b9, c9, d9⟩ := int_any s hs' p8 e8 1 a8 b8 c8 (by omega)
  obtain ⟨v10, p10, e10, q10, a10, b10, c10, d10⟩ := int_any s hs' p9 e9 1 a9 b9 c9 (by omega)
  obtain ⟨v11, p11, e11, q11, a11, b11, c11, d11⟩ := bytes_any s hs' p10 e10 3 a10 b10 c10 (by omega)
  have hne : e11 = 2 := by
    rcases c11 with h | h
    · obtain ⟨h10, r10⟩ := d11 h
      obtain ⟨h9, r9⟩ := d10 h10
      obtain ⟨h8, r8⟩ := d9 h9
      obtain ⟨h7, r7⟩ := d8 h8
      obtain ⟨h6, r6⟩ := d7 h7
      obtain ⟨h5, r5⟩ := d6 h6
      obtain ⟨h4, r4⟩ := d5 h5
      obtain ⟨h3, r3⟩ := d4 h4
      obtain ⟨h2, r2⟩ := d3 h3
      obtain ⟨h1, r1⟩ := d2 h2
      obtain ⟨h0, r0⟩ := d1 h1
      omega
    · exact h
  subst hne
  refine bind_eq q1 ?_
  refine bind_eq q2 ?_
  refine bind_eq q3 ?_
  refine bind_eq q4 ?_
  refine bind_eq q5 ?_
  refine bind_eq q6 ?_
  refine bind_eq q7 ?_
  refine bind_eq q8 ?_
  refine bind_eq q9 ?_
  refine bind_eq q10 ?_
  refine bind_eq q11 ?_
  refine bind_eq (show X.octets_Cursor_Err.f s p11 2 = some (2, s, p11, 2) from rfl) ?_
  rw [if_neg (show ¬ ((2 : Int) = 0) by decide)]
  exact bind_eq (show X.octets_Cursor_Err.f s p11 2 = some (2, s, p11, 2) from rfl) rfl
theorem parse_long (s : ByteArray) (hs : s.size ≤ 4611686018427387904) (h16 : 16 ≤ s.size) (l : List Int) (hl : bytesOf s = l) (b : Bool)
    (hb : X.format_Valid.f (l.getD 0 0) (l.getD 1 0) (l.getD 2 0 != 0) (l.getD 3 0 != 0) (l.getD 4 0 * 256 + l.getD 5 0) (l.getD 6 0 * 256 + l.getD 7 0) (l.getD 8 0 * 256 + l.getD 9 0) (l.getD 10 0) (l.getD 11 0) (l.getD 12 0) = some b) :
    X.format_Parse.f s = some (if b = true then (l.getD 0 0, l.getD 1 0, (l.getD 2 0 != 0), (l.getD 3 0 != 0), l.getD 4 0 * 256 + l.getD 5 0, l.getD 6 0 * 256 + l.getD 7 0, l.getD 8 0 * 256 + l.getD 9 0, l.getD 10 0, l.getD 11 0, l.getD 12 0, 0) else (0, 0, false, false, 0, 0, 0, 0, 0, 0, 130)) := by
  subst hl
  have q1 := int1_ok s hs 0 (by omega)
  have q2 := int1_ok s hs 1 (by omega)
  have q3 := int1_ok s hs 2 (by omega)
  have q4 := int1_ok s hs 3 (by omega)
  have q5 := int2_ok s hs 4 (by omega)
  have q6 := int2_ok s hs 6 (by omega)
  have q7 := int2_ok s hs 8 (by omega)
  have q8 := int1_ok s hs 10 (by omega)
  have q9 := int1_ok s hs 11 (by omega)
  have q10 := int1_ok s hs 12 (by omega)
  have q11 := bytes_ok s hs 13 3 (by omega)
  unfold X.format_Parse.f
  refine bind_eq (show X.octets_New.f s = some (s, 0, 0) from rfl) ?_
  refine bind_eq q1 ?_
  refine bind_eq q2 ?_
  refine bind_eq q3 ?_
  refine bind_eq q4 ?_
  refine bind_eq q5 ?_
  refine bind_eq q6 ?_
  refine bind_eq q7 ?_
  refine bind_eq q8 ?_
  refine bind_eq q9 ?_
  refine bind_eq q10 ?_
  refine bind_eq q11 ?_
  refine bind_eq (show X.octets_Cursor_Err.f s ((13 + 3 : Nat) : Int) 0 = some (0, s, ((13 + 3 : Nat) : Int), 0) from rfl) ?_
  rw [if_pos rfl]
  refine bind_eq hb ?_
  cases b <;> rfl
end Go.Proofs.Ytclikkhkhoicfaa.F
