import Derived.Test.YtclikkhkhoicfaaCL6
/-! What is said of any message: nothing, or its bytes; they are read again as the plain message. -/
namespace Go.Proofs.Ytclikkhkhoicfaa.H
set_option linter.unusedVariables false
set_option linter.unusedSimpArgs false
open Go.RowKit Go.Proofs.Ytclikkhkhoicfaa.X Go.Proofs.Ytclikkhkhoicfaa.B Go.Proofs.Ytclikkhkhoicfaa.O Go.Proofs.Ytclikkhkhoicfaa.F Go.Proofs.YtclikkhkhoicfaaW.PrintWords Go.Proofs.YtclikkhkhoicfaaW.PrintLast Go.Proofs.YtclikkhkhoicfaaW.PrintMore
/-- A message with just the fields that it has. -/
def plainF (b0 : Int) (b1 : Bool) (b2 : Int) (b3 : Int) (b4 : Int) (b5 : Int) (b6 : Int) (b7 : Int) (b8 : Int) (b9 : Bool) (b10 : Bool) (b11 : Int) (b12 : Int) (b13 : Int) (b14 : Int) (b15 : Int) (b16 : Int) (b17 : List Int) (b18 : ByteArray) : P19 := if b0 = 0 then (b0, false, 0, 0, 0, 0, 0, b7, b8, b9, b10, b11, b12, b13, b14, b15, b16, [], ⟨#[]⟩) else if b0 = 1 then (b0, false, 0, 0, 0, 0, 0, 0, 0, false, false, 0, 0, 0, 0, 0, 0, b17, ⟨#[]⟩) else if b0 = 2 then (b0, b1, 0, b3, b4, b5, b6, 0, 0, false, false, 0, 0, 0, 0, 0, 0, [], ⟨#[]⟩) else if b0 = 3 then (b0, b1, b2, 0, 0, 0, 0, 0, 0, false, false, 0, 0, 0, 0, 0, 0, [], ⟨#[]⟩) else if b0 = 4 then (b0, false, b2, b3, b4, 0, 0, 0, 0, false, false, 0, 0, 0, 0, 0, 0, [], ⟨#[]⟩) else (b0, false, 0, 0, 0, 0, 0, 0, 0, false, false, 0, 0, 0, 0, 0, 0, [], b18)
/-- Nothing, or bytes that are read as p. -/
def Said1 (r : ByteArray × Int) (p : P19) : Prop := (r.2 ≠ 0 → r.1 = ⟨#[]⟩) ∧ (r.2 = 0 → ∃ M bs, Form M bs ∧ r.1 = strOfNums bs ∧ p19 M = p)
theorem said1 {q : P19} {M : M20} {bs : List Int} {r : ByteArray × Int} (hf : Form M bs) (e : bytes19 q = some r) (e3 : bytes19 (p19 M) = bytes19 q) : ∃ M bs, Form M bs ∧ r.1 = strOfNums bs ∧ p19 M = p19 M := by
  have e2 := bytes_form hf
  rw [e3, e] at e2
  obtain rfl := Option.some.inj e2
  exact ⟨M, bs, hf, rfl, rfl⟩
theorem said_r {q : P19} {M : M20} {bs : List Int} {r : ByteArray × Int} (hf : Form M bs) (e : bytes19 q = some r) (e3 : bytes19 (p19 M) = bytes19 q) : r.1 = strOfNums bs := by
  have e2 := bytes_form hf
  rw [e3, e] at e2
  obtain rfl := Option.some.inj e2
  rfl
theorem say_2 (b1 : Bool) (b2 : Int) (b3 : Int) (b4 : Int) (b5 : Int) (b6 : Int) (b7 : Int) (b8 : Int) (b9 : Bool) (b10 : Bool) (b11 : Int) (b12 : Int) (b13 : Int) (b14 : Int) (b15 : Int) (b16 : Int) (b17 : List Int) (b18 : ByteArray) : ∃ r, bytes19 (2, b1, b2, b3, b4, b5, b6, b7, b8, b9, b10, b11, b12, b13, b14, b15, b16, b17, b18) = some r ∧ Said1 r (2, b1, 0, b3, b4, b5, b6, 0, 0, false, false, 0, 0, 0, 0, 0, 0, [], ⟨#[]⟩) := by
  obtain ⟨r, e, h1, h2⟩ := wr2_any 1 2 [3, bitN b1] [b3, b4, b5, b6] (by simp) (by simp)
  have eb : bytes19 (2, b1, b2, b3, b4, b5, b6, b7, b8, b9, b10, b11, b12, b13, b14, b15, b16, b17, b18) = some r := by unfold bytes19 clientmsg_Bytes.f; exact ((if_neg (show ¬ ((2 : Int) = 0) by decide)).trans ((if_neg (show ¬ ((2 : Int) = 1) by decide)).trans ((if_pos rfl)))).trans (bind_eq (bit_f b1) e)
  refine ⟨r, eb, h2, fun h0 => ?_⟩
  obtain ⟨f1, f2⟩ := h1 h0
  have hf := Form.request b1 b3 b4 b5 b6 (f2 _ (by simp)) (f2 _ (by simp)) (f2 _ (by simp)) (f2 _ (by simp))
  exact ⟨_, _, hf, said_r hf eb (by unfold bytes19 clientmsg_Bytes.f; exact ((if_neg (show ¬ ((2 : Int) = 0) by decide)).trans ((if_neg (show ¬ ((2 : Int) = 1) by decide)).trans ((if_pos rfl)))).trans ((if_neg (show ¬ ((2 : Int) = 0) by decide)).trans ((if_neg (show ¬ ((2 : Int) = 1) by decide)).trans ((if_pos rfl)))).symm), rfl⟩
theorem say_3 (b1 : Bool) (b2 : Int) (b3 : Int) (b4 : Int) (b5 : Int) (b6 : Int) (b7 : Int) (b8 : Int) (b9 : Bool) (b10 : Bool) (b11 : Int) (b12 : Int) (b13 : Int) (b14 : Int) (b15 : Int) (b16 : Int) (b17 : List Int) (b18 : ByteArray) : ∃ r, bytes19 (3, b1, b2, b3, b4, b5, b6, b7, b8, b9, b10, b11, b12, b13, b14, b15, b16, b17, b18) = some r ∧ Said1 r (3, b1, b2, 0, 0, 0, 0, 0, 0, false, false, 0, 0, 0, 0, 0, 0, [], ⟨#[]⟩) := by
  obtain ⟨r, e, h1, h2⟩ := wr2_any 1 4 [4, bitN b1, 0, 0] [b2] (by simp) (by simp)
  have eb : bytes19 (3, b1, b2, b3, b4, b5, b6, b7, b8, b9, b10, b11, b12, b13, b14, b15, b16, b17, b18) = some r := by unfold bytes19 clientmsg_Bytes.f; exact ((if_neg (show ¬ ((3 : Int) = 0) by decide)).trans ((if_neg (show ¬ ((3 : Int) = 1) by decide)).trans ((if_neg (show ¬ ((3 : Int) = 2) by decide)).trans ((if_pos rfl))))).trans (bind_eq (bit_f b1) e)
  refine ⟨r, eb, h2, fun h0 => ?_⟩
  obtain ⟨f1, f2⟩ := h1 h0
  have hf := Form.key b1 b2 (f2 _ (by simp))
  exact ⟨_, _, hf, said_r hf eb (by unfold bytes19 clientmsg_Bytes.f; exact ((if_neg (show ¬ ((3 : Int) = 0) by decide)).trans ((if_neg (show ¬ ((3 : Int) = 1) by decide)).trans ((if_neg (show ¬ ((3 : Int) = 2) by decide)).trans ((if_pos rfl))))).trans ((if_neg (show ¬ ((3 : Int) = 0) by decide)).trans ((if_neg (show ¬ ((3 : Int) = 1) by decide)).trans ((if_neg (show ¬ ((3 : Int) = 2) by decide)).trans ((if_pos rfl))))).symm), rfl⟩
theorem say_4 (b1 : Bool) (b2 : Int) (b3 : Int) (b4 : Int) (b5 : Int) (b6 : Int) (b7 : Int) (b8 : Int) (b9 : Bool) (b10 : Bool) (b11 : Int) (b12 : Int) (b13 : Int) (b14 : Int) (b15 : Int) (b16 : Int) (b17 : List Int) (b18 : ByteArray) : ∃ r, bytes19 (4, b1, b2, b3, b4, b5, b6, b7, b8, b9, b10, b11, b12, b13, b14, b15, b16, b17, b18) = some r ∧ Said1 r (4, false, b2, b3, b4, 0, 0, 0, 0, false, false, 0, 0, 0, 0, 0, 0, [], ⟨#[]⟩) := by
  obtain ⟨r, e, h1, h2⟩ := wr2_any 1 2 [5, b2] [b3, b4] (by simp) (by simp)
  have eb : bytes19 (4, b1, b2, b3, b4, b5, b6, b7, b8, b9, b10, b11, b12, b13, b14, b15, b16, b17, b18) = some r := by unfold bytes19 clientmsg_Bytes.f; exact ((if_neg (show ¬ ((4 : Int) = 0) by decide)).trans ((if_neg (show ¬ ((4 : Int) = 1) by decide)).trans ((if_neg (show ¬ ((4 : Int) = 2) by decide)).trans ((if_neg (show ¬ ((4 : Int) = 3) by decide)).trans ((if_pos rfl)))))).trans (e)
  refine ⟨r, eb, h2, fun h0 => ?_⟩
  obtain ⟨f1, f2⟩ := h1 h0
  have hf := Form.pointer b2 b3 b4 (f1 _ (by simp)) (f2 _ (by simp)) (f2 _ (by simp))
  exact ⟨_, _, hf, said_r hf eb (by unfold bytes19 clientmsg_Bytes.f; exact ((if_neg (show ¬ ((4 : Int) = 0) by decide)).trans ((if_neg (show ¬ ((4 : Int) = 1) by decide)).trans ((if_neg (show ¬ ((4 : Int) = 2) by decide)).trans ((if_neg (show ¬ ((4 : Int) = 3) by decide)).trans ((if_pos rfl)))))).trans ((if_neg (show ¬ ((4 : Int) = 0) by decide)).trans ((if_neg (show ¬ ((4 : Int) = 1) by decide)).trans ((if_neg (show ¬ ((4 : Int) = 2) by decide)).trans ((if_neg (show ¬ ((4 : Int) = 3) by decide)).trans ((if_pos rfl)))))).symm), rfl⟩
theorem say_0 (b1 : Bool) (b2 : Int) (b3 : Int) (b4 : Int) (b5 : Int) (b6 : Int) (b7 : Int) (b8 : Int) (b9 : Bool) (b10 : Bool) (b11 : Int) (b12 : Int) (b13 : Int) (b14 : Int) (b15 : Int) (b16 : Int) (b17 : List Int) (b18 : ByteArray) : ∃ r, bytes19 (0, b1, b2, b3, b4, b5, b6, b7, b8, b9, b10, b11, b12, b13, b14, b15, b16, b17, b18) = some r ∧ Said1 r (0, false, 0, 0, 0, 0, 0, b7, b8, b9, b10, b11, b12, b13, b14, b15, b16, [], ⟨#[]⟩) := by
  obtain ⟨v, e, _⟩ := valid_p b7 b8 b9 b10 b11 b12 b13 b14 b15 b16
  cases v with
  | false =>
    have eb : bytes19 (0, b1, b2, b3, b4, b5, b6, b7, b8, b9, b10, b11, b12, b13, b14, b15, b16, b17, b18) = some (⟨#[]⟩, 130) := by unfold bytes19 clientmsg_Bytes.f; exact (if_pos rfl).trans (bind_eq e (if_neg (by decide)))
    exact ⟨_, eb, fun _ => rfl, fun h => absurd (show (130 : Int) = 0 from h) (by decide)⟩
  | true =>
    have hf := Form.fmt b7 b8 b9 b10 b11 b12 b13 b14 b15 b16 e
    have e2 := bytes_form hf
    have e3 : bytes19 (p19 (m0 (b7, b8, b9, b10, b11, b12, b13, b14, b15, b16, 0))) = bytes19 (0, b1, b2, b3, b4, b5, b6, b7, b8, b9, b10, b11, b12, b13, b14, b15, b16, b17, b18) := (by unfold bytes19 clientmsg_Bytes.f; exact ((if_pos rfl)).trans ((if_pos rfl)).symm)
    rw [e3] at e2
    exact ⟨_, e2, fun h => absurd rfl h, fun _ => ⟨_, _, hf, rfl, rfl⟩⟩
theorem say_1 (b1 : Bool) (b2 : Int) (b3 : Int) (b4 : Int) (b5 : Int) (b6 : Int) (b7 : Int) (b8 : Int) (b9 : Bool) (b10 : Bool) (b11 : Int) (b12 : Int) (b13 : Int) (b14 : Int) (b15 : Int) (b16 : Int) (b17 : List Int) (b18 : ByteArray) (hl : b17.length ≤ 5000) (hi : ∀ x ∈ b17, I64 x) : ∃ r, bytes19 (1, b1, b2, b3, b4, b5, b6, b7, b8, b9, b10, b11, b12, b13, b14, b15, b16, b17, b18) = some r ∧ Said1 r (1, false, 0, 0, 0, 0, 0, 0, 0, false, false, 0, 0, 0, 0, 0, 0, b17, ⟨#[]⟩) := by
  have a := wInts_f 1 [2, 0] ([], decide (256 < b17.length)) (show 0 + 4 * 2 ≤ 140737488351000 by decide)
  have z1 := pWs_len 1 [2, 0] ([], decide (256 < b17.length))
  have zl : ([2, 0] : List Int).length = 2 := rfl
  rw [List.length_nil, zl] at z1
  have b := wInts_f 2 [(b17.length : Int)] (pWs 1 [2, 0] ([], decide (256 < b17.length))) (by rw [List.length_singleton]; omega)
  have z2 := pWs_len 2 [(b17.length : Int)] (pWs 1 [2, 0] ([], decide (256 < b17.length)))
  rw [List.length_singleton] at z2
  have c := wSs_f b17 (pWs 2 [(b17.length : Int)] (pWs 1 [2, 0] ([], decide (256 < b17.length)))) hi (by omega)
  have eb : bytes19 (1, b1, b2, b3, b4, b5, b6, b7, b8, b9, b10, b11, b12, b13, b14, b15, b16, b17, b18) = some (endB (pSs b17 (pWs 2 [(b17.length : Int)] (pWs 1 [2, 0] ([], decide (256 < b17.length)))))) := by unfold bytes19 clientmsg_Bytes.f; exact ((if_neg (show ¬ ((1 : Int) = 0) by decide)).trans ((if_pos rfl))).trans ((if_pos (show b17.length ≤ 1000000000000 by omega)).trans (bind_eq a (bind_eq b (bind_eq c rfl))))
  refine ⟨_, eb, endB_bad, fun h0 => ?_⟩
  obtain ⟨h1, h2⟩ := pSs_ok (endB_ok h0)
  obtain ⟨h3, _⟩ := pWs_ok h1
  obtain ⟨h4, _⟩ := pWs_ok h3
  have h5 : b17.length ≤ 256 := by have := of_decide_eq_false h4; omega
  have hf := Form.encs b17 h5 h2
  exact ⟨_, _, hf, said_r hf eb (by unfold bytes19 clientmsg_Bytes.f; exact ((if_neg (show ¬ ((1 : Int) = 0) by decide)).trans ((if_pos rfl))).trans ((if_neg (show ¬ ((1 : Int) = 0) by decide)).trans ((if_pos rfl))).symm), rfl⟩
theorem say_5 (b1 : Bool) (b2 : Int) (b3 : Int) (b4 : Int) (b5 : Int) (b6 : Int) (b7 : Int) (b8 : Int) (b9 : Bool) (b10 : Bool) (b11 : Int) (b12 : Int) (b13 : Int) (b14 : Int) (b15 : Int) (b16 : Int) (b17 : List Int) (b18 : ByteArray) (hl : b18.size ≤ 5000) : ∃ r, bytes19 (5, b1, b2, b3, b4, b5, b6, b7, b8, b9, b10, b11, b12, b13, b14, b15, b16, b17, b18) = some r ∧ Said1 r (5, false, 0, 0, 0, 0, 0, 0, 0, false, false, 0, 0, 0, 0, 0, 0, [], b18) := by
  have a := wInts_f 1 [6, 0, 0, 0] ([], decide (4096 < b18.size)) (show 0 + 4 * 4 ≤ 140737488351000 by decide)
  have z1 := pWs_len 1 [6, 0, 0, 0] ([], decide (4096 < b18.size))
  have zl : ([6, 0, 0, 0] : List Int).length = 4 := rfl
  rw [List.length_nil, zl] at z1
  have b := wInts_f 4 [(b18.size : Int)] (pWs 1 [6, 0, 0, 0] ([], decide (4096 < b18.size))) (by rw [List.length_singleton]; omega)
  have z2 := pWs_len 4 [(b18.size : Int)] (pWs 1 [6, 0, 0, 0] ([], decide (4096 < b18.size)))
  rw [List.length_singleton] at z2
  obtain ⟨st, hst⟩ : ∃ x, pWs 4 [(b18.size : Int)] (pWs 1 [6, 0, 0, 0] ([], decide (4096 < b18.size))) = x := ⟨_, rfl⟩
  rw [hst] at b z2
  have eb : bytes19 (5, b1, b2, b3, b4, b5, b6, b7, b8, b9, b10, b11, b12, b13, b14, b15, b16, b17, b18) = some (endB (st.1 ++ b18.data.toList, st.2)) := by unfold bytes19 clientmsg_Bytes.f; exact ((if_neg (show ¬ ((5 : Int) = 0) by decide)).trans ((if_neg (show ¬ ((5 : Int) = 1) by decide)).trans ((if_neg (show ¬ ((5 : Int) = 2) by decide)).trans ((if_neg (show ¬ ((5 : Int) = 3) by decide)).trans ((if_neg (show ¬ ((5 : Int) = 4) by decide)).trans ((if_pos rfl))))))).trans ((if_pos (show b18.size ≤ 140737488351232 by omega)).trans (bind_eq a (bind_eq b (if_pos (show st.1.length + b18.size ≤ 140737488351232 by omega)))))
  refine ⟨_, eb, endB_bad, fun h0 => ?_⟩
  have h1 : st.2 = false := endB_ok (st := (st.1 ++ b18.data.toList, st.2)) h0
  rw [← hst] at h1
  obtain ⟨h3, _⟩ := pWs_ok h1
  obtain ⟨h4, _⟩ := pWs_ok h3
  have h5 : b18.size ≤ 4096 := by have := of_decide_eq_false h4; omega
  have hf := Form.cut b18 h5
  exact ⟨_, _, hf, said_r hf eb (by unfold bytes19 clientmsg_Bytes.f; exact ((if_neg (show ¬ ((5 : Int) = 0) by decide)).trans ((if_neg (show ¬ ((5 : Int) = 1) by decide)).trans ((if_neg (show ¬ ((5 : Int) = 2) by decide)).trans ((if_neg (show ¬ ((5 : Int) = 3) by decide)).trans ((if_neg (show ¬ ((5 : Int) = 4) by decide)).trans ((if_pos rfl))))))).trans ((if_neg (show ¬ ((5 : Int) = 0) by decide)).trans ((if_neg (show ¬ ((5 : Int) = 1) by decide)).trans ((if_neg (show ¬ ((5 : Int) = 2) by decide)).trans ((if_neg (show ¬ ((5 : Int) = 3) by decide)).trans ((if_neg (show ¬ ((5 : Int) = 4) by decide)).trans ((if_pos rfl))))))).symm), rfl⟩
theorem say_c (b0 : Int) (b1 : Bool) (b2 : Int) (b3 : Int) (b4 : Int) (b5 : Int) (b6 : Int) (b7 : Int) (b8 : Int) (b9 : Bool) (b10 : Bool) (b11 : Int) (b12 : Int) (b13 : Int) (b14 : Int) (b15 : Int) (b16 : Int) (b17 : List Int) (b18 : ByteArray) (hl : b17.length ≤ 5000) (hx : b18.size ≤ 5000) (hi : ∀ x ∈ b17, I64 x) : ∃ r, bytes19 (b0, b1, b2, b3, b4, b5, b6, b7, b8, b9, b10, b11, b12, b13, b14, b15, b16, b17, b18) = some r ∧ Said1 r (plainF b0 b1 b2 b3 b4 b5 b6 b7 b8 b9 b10 b11 b12 b13 b14 b15 b16 b17 b18) := by
  by_cases k0 : b0 = 0
  · subst k0
    rw [show plainF 0 b1 b2 b3 b4 b5 b6 b7 b8 b9 b10 b11 b12 b13 b14 b15 b16 b17 b18 = (0, false, 0, 0, 0, 0, 0, b7, b8, b9, b10, b11, b12, b13, b14, b15, b16, [], ⟨#[]⟩) from if_pos rfl]
    exact say_0 b1 b2 b3 b4 b5 b6 b7 b8 b9 b10 b11 b12 b13 b14 b15 b16 b17 b18
  by_cases k1 : b0 = 1
  · subst k1
    rw [show plainF 1 b1 b2 b3 b4 b5 b6 b7 b8 b9 b10 b11 b12 b13 b14 b15 b16 b17 b18 = (1, false, 0, 0, 0, 0, 0, 0, 0, false, false, 0, 0, 0, 0, 0, 0, b17, ⟨#[]⟩) from (if_neg (show ¬ ((1 : Int) = 0) by decide)).trans (if_pos rfl)]
    exact say_1 b1 b2 b3 b4 b5 b6 b7 b8 b9 b10 b11 b12 b13 b14 b15 b16 b17 b18 hl hi
  by_cases k2 : b0 = 2
  · subst k2
    rw [show plainF 2 b1 b2 b3 b4 b5 b6 b7 b8 b9 b10 b11 b12 b13 b14 b15 b16 b17 b18 = (2, b1, 0, b3, b4, b5, b6, 0, 0, false, false, 0, 0, 0, 0, 0, 0, [], ⟨#[]⟩) from (if_neg (show ¬ ((2 : Int) = 0) by decide)).trans ((if_neg (show ¬ ((2 : Int) = 1) by decide)).trans (if_pos rfl))]
    exact say_2 b1 b2 b3 b4 b5 b6 b7 b8 b9 b10 b11 b12 b13 b14 b15 b16 b17 b18
  by_cases k3 : b0 = 3
  · subst k3
    rw [show plainF 3 b1 b2 b3 b4 b5 b6 b7 b8 b9 b10 b11 b12 b13 b14 b15 b16 b17 b18 = (3, b1, b2, 0, 0, 0, 0, 0, 0, false, false, 0, 0, 0, 0, 0, 0, [], ⟨#[]⟩) from (if_neg (show ¬ ((3 : Int) = 0) by decide)).trans ((if_neg (show ¬ ((3 : Int) = 1) by decide)).trans ((if_neg (show ¬ ((3 : Int) = 2) by decide)).trans (if_pos rfl)))]
    exact say_3 b1 b2 b3 b4 b5 b6 b7 b8 b9 b10 b11 b12 b13 b14 b15 b16 b17 b18
  by_cases k4 : b0 = 4
  · subst k4
    rw [show plainF 4 b1 b2 b3 b4 b5 b6 b7 b8 b9 b10 b11 b12 b13 b14 b15 b16 b17 b18 = (4, false, b2, b3, b4, 0, 0, 0, 0, false, false, 0, 0, 0, 0, 0, 0, [], ⟨#[]⟩) from (if_neg (show ¬ ((4 : Int) = 0) by decide)).trans ((if_neg (show ¬ ((4 : Int) = 1) by decide)).trans ((if_neg (show ¬ ((4 : Int) = 2) by decide)).trans ((if_neg (show ¬ ((4 : Int) = 3) by decide)).trans (if_pos rfl))))]
    exact say_4 b1 b2 b3 b4 b5 b6 b7 b8 b9 b10 b11 b12 b13 b14 b15 b16 b17 b18
  by_cases k5 : b0 = 5
  · subst k5
    rw [show plainF 5 b1 b2 b3 b4 b5 b6 b7 b8 b9 b10 b11 b12 b13 b14 b15 b16 b17 b18 = (5, false, 0, 0, 0, 0, 0, 0, 0, false, false, 0, 0, 0, 0, 0, 0, [], b18) from ((if_neg (show ¬ ((5 : Int) = 0) by decide)).trans ((if_neg (show ¬ ((5 : Int) = 1) by decide)).trans ((if_neg (show ¬ ((5 : Int) = 2) by decide)).trans ((if_neg (show ¬ ((5 : Int) = 3) by decide)).trans (if_neg (show ¬ ((5 : Int) = 4) by decide))))))]
    exact say_5 b1 b2 b3 b4 b5 b6 b7 b8 b9 b10 b11 b12 b13 b14 b15 b16 b17 b18 hx
  have eb : bytes19 (b0, b1, b2, b3, b4, b5, b6, b7, b8, b9, b10, b11, b12, b13, b14, b15, b16, b17, b18) = some (⟨#[]⟩, 1) := by unfold bytes19 clientmsg_Bytes.f; exact (if_neg k0).trans ((if_neg k1).trans ((if_neg k2).trans ((if_neg k3).trans ((if_neg k4).trans (if_neg k5)))))
  exact ⟨_, eb, fun _ => rfl, fun h => absurd (show (1 : Int) = 0 from h) (by decide)⟩
end Go.Proofs.Ytclikkhkhoicfaa.H
