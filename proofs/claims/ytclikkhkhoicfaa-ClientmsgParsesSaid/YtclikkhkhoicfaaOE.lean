/- A cursor that goes on, or needs more bytes, in plain lists. No condition. -/
import Derived.Test.YtclikkhkhoicfaaOC
namespace Go.Proofs.Ytclikkhkhoicfaa.O
open Go.RowKit Go.Proofs.YtclikkhkhoicfaaW.PrintWords Go.Proofs.YtclikkhkhoicfaaW.PrintLast Go.Proofs.YtclikkhkhoicfaaW.PrintMore Go.Proofs.Ytclikkhkhoicfaa.B
set_option linter.unusedVariables false
set_option linter.unusedSimpArgs false
theorem one_at (l : List Int) (p : Nat) (h : p < l.length) : (l.take (p + 1)).drop p = [l.getD p 0] := by
  rw [List.take_succ_eq_append_getElem h, List.drop_append, List.drop_eq_nil_of_le (by rw [List.length_take]; omega), List.length_take, Nat.min_eq_left (by omega), Nat.sub_self]
  simp [List.getD, h]
theorem two_at (l : List Int) (p : Nat) (h : p + 1 < l.length) : (l.take (p + 2)).drop p = [l.getD p 0, l.getD (p + 1) 0] := by
  have h1 := one_at l p (by omega)
  rw [List.take_succ_eq_append_getElem (show p + 1 < l.length by omega), List.drop_append, h1, List.length_take, Nat.min_eq_left (by omega), show p - (p + 1) = 0 by omega]
  simp [List.getD, h]
theorem int1_ok (s : ByteArray) (hs : s.size ≤ 4611686018427387904) (p : Nat) (h : p + 1 ≤ s.size) : X.octets_Cursor_Int.f s (p : Int) 0 1 = some ((bytesOf s).getD p 0, s, ((p + 1 : Nat) : Int), 0) := by
  rw [Int_f s p 0 1 hs (by omega) (by omega)]
  have ha : asked 0 1 = 0 := by decide
  have hr : rdB s (p : Int) 0 1 = (s.extract p (p + 1), (p : Int) + 1, 0) := by
    unfold rdB
    rw [if_neg (by simp), if_neg (by omega), if_neg (by omega), Int.toNat_natCast, show ((p : Int) + 1).toNat = p + 1 by omega]
  rw [ha, hr]
  show some (beN (bytesOf (s.extract p (p + 1))), s, (p : Int) + 1, (0 : Int)) = _
  rw [bytes_extract, one_at _ _ (by rw [bytesOf_length]; omega)]
  simp [beN]
theorem int2_ok (s : ByteArray) (hs : s.size ≤ 4611686018427387904) (p : Nat) (h : p + 2 ≤ s.size) : X.octets_Cursor_Int.f s (p : Int) 0 2 = some ((bytesOf s).getD p 0 * 256 + (bytesOf s).getD (p + 1) 0, s, ((p + 2 : Nat) : Int), 0) := by
  rw [Int_f s p 0 2 hs (by omega) (by omega)]
  have ha : asked 0 2 = 0 := by decide
  have hr : rdB s (p : Int) 0 2 = (s.extract p (p + 2), (p : Int) + 2, 0) := by
    unfold rdB
    rw [if_neg (by simp), if_neg (by omega), if_neg (by omega), Int.toNat_natCast, show ((p : Int) + 2).toNat = p + 2 by omega]
  rw [ha, hr]
  show some (beN (bytesOf (s.extract p (p + 2))), s, (p : Int) + 2, (0 : Int)) = _
  rw [bytes_extract, two_at _ _ (by rw [bytesOf_length]; omega)]
  simp [beN]
theorem bytes_ok (s : ByteArray) (hs : s.size ≤ 4611686018427387904) (p m : Nat) (h : p + m ≤ s.size) : X.octets_Cursor_Bytes.f s (p : Int) 0 (m : Int) = some (s.extract p (p + m), s, ((p + m : Nat) : Int), 0) := by
  rw [Bytes_f s p 0 m hs (by omega) (by omega)]
  have hr : rdB s (p : Int) 0 (m : Int) = (s.extract p (p + m), (p : Int) + m, 0) := by
    unfold rdB
    rw [if_neg (by simp), if_neg (by omega), if_neg (by omega), Int.toNat_natCast, show ((p : Int) + m).toNat = p + m by omega]
  rw [hr]
  push_cast; rfl
/-- A cursor goes on, or more bytes are needed. -/
theorem int_any (s : ByteArray) (hs : s.size ≤ 4611686018427387904) (p e n : Int) (h0 : 0 ≤ p) (h1 : p ≤ s.size) (he : e = 0 ∨ e = 2) (hn : n = 1 ∨ n = 2 ∨ n = 4) : ∃ v p' e', X.octets_Cursor_Int.f s p e n = some (v, s, p', e') ∧ 0 ≤ p' ∧ p' ≤ s.size ∧ (e' = 0 ∨ e' = 2) ∧ (e' = 0 → e = 0 ∧ p' = p + n) := by
  refine ⟨_, _, _, Int_f s p e n hs h0 h1, ?_⟩
  have ha : asked e n = e := by unfold asked; rw [if_neg (fun h => h.2 hn)]
  rw [ha]
  unfold rdB
  split
  · exact ⟨h0, h1, he, fun h => by simp at h; contradiction⟩
  · split
    · omega
    · split
      · exact ⟨h0, h1, .inr rfl, fun h => by simp at h⟩
      · refine ⟨by show 0 ≤ p + n; omega, by show p + n ≤ _; omega, .inl rfl, fun _ => ⟨by omega, rfl⟩⟩
theorem bytes_any (s : ByteArray) (hs : s.size ≤ 4611686018427387904) (p e n : Int) (h0 : 0 ≤ p) (h1 : p ≤ s.size) (he : e = 0 ∨ e = 2) (hn : 0 ≤ n) : ∃ v p' e', X.octets_Cursor_Bytes.f s p e n = some (v, s, p', e') ∧ 0 ≤ p' ∧ p' ≤ s.size ∧ (e' = 0 ∨ e' = 2) ∧ (e' = 0 → e = 0 ∧ p' = p + n) := by
  refine ⟨_, _, _, Bytes_f s p e n hs h0 h1, ?_⟩
  unfold rdB
  split
  · exact ⟨h0, h1, he, fun h => by simp at h; contradiction⟩
  · split
    · omega
    · split
      · exact ⟨h0, h1, .inr rfl, fun h => by simp at h⟩
      · refine ⟨by show 0 ≤ p + n; omega, by show p + n ≤ _; omega, .inl rfl, fun _ => ⟨by omega, rfl⟩⟩
end Go.Proofs.Ytclikkhkhoicfaa.O
