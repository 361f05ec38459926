/- PlainCopies: from where a rectangle comes, as bytes, and of any bytes, is just what the document says. No condition. -/
import Derived.Test.YtloigmonfbfieaaOE
import Derived.Test.YtloigmonfbfieaaOD
import Derived.Test.YtloigmonfbfieaaOAR
import Derived.Test.YtloigmonfbfieaaXx16
import Derived.Test.YtloigmonfbfieaaXx15
namespace Go.Proofs.Ytloigmonfbfieaa.Pure
open Go.RowKit Go.Proofs.Ytloigmonfbfieaa.X Go.Proofs.YtloigmonfbfieaaW.PrintWords Go.Proofs.YtloigmonfbfieaaW.PrintLast Go.Proofs.YtloigmonfbfieaaW.PrintMore Go.Proofs.Ytloigmonfbfieaa.B Go.Proofs.Ytloigmonfbfieaa.O
set_option linter.unusedVariables false
set_option linter.unusedSimpArgs false
/-- From where, as bytes. -/
def copyS (x y : Int) : ByteArray × Int := if fits 2 x ∧ fits 2 y then (strOfNums (beL 2 x ++ beL 2 y), 0) else (⟨#[]⟩, 1)
theorem Copy_f (x y : Int) (k : Nat) (hk : 20 ≤ k) : plain_Copy.f k x y = some (copyS x y) := by
  unfold plain_Copy.f copyS
  refine bind_eq (Put_f (by omega) _ _) ?_
  refine bind_eq (Put_f (by omega) _ _) ?_
  by_cases h1 : fits 2 x
  · by_cases h2 : fits 2 y
    · rw [if_pos h1, if_pos h2, if_pos (show fits 2 x ∧ fits 2 y from ⟨h1, h2⟩)]
      refine (if_pos rfl).trans ((if_pos rfl).trans ?_)
      rw [if_pos (by rw [strOfNums_size, strOfNums_size]; have := beL_length h1; have := beL_length h2; omega), str_append]
    · rw [if_pos h1, if_neg h2, if_neg (show ¬ (fits 2 x ∧ fits 2 y) from fun h => h2 h.2)]
      exact (if_pos rfl).trans (if_neg (show ¬ ((1 : Int) = 0) by decide))
  · rw [if_neg h1, if_neg (show ¬ (fits 2 x ∧ fits 2 y) from fun h => h1 h.1)]
    exact if_neg (show ¬ ((1 : Int) = 0) by decide)
theorem rCopy_f (x y : Int) (hx : x ≤ 9223372036854775807) (hy : y ≤ 9223372036854775807) (k : Nat) (hk : 20 ≤ k) : miradorref16_Copy.f k x y = some (copyS x y) := by
  unfold miradorref16_Copy.f copyS
  refine bind_eq (rPut_f (by omega) _ _ hx) ?_
  refine bind_eq (rPut_f (by omega) _ _ hy) ?_
  by_cases h1 : fits 2 x
  · by_cases h2 : fits 2 y
    · rw [if_pos h1, if_pos h2, if_pos (show fits 2 x ∧ fits 2 y from ⟨h1, h2⟩)]
      refine (if_pos rfl).trans ((if_pos rfl).trans ?_)
      rw [if_pos (by rw [strOfNums_size, strOfNums_size]; have := beL_length h1; have := beL_length h2; omega), str_append]
    · rw [if_pos h1, if_neg h2, if_neg (show ¬ (fits 2 x ∧ fits 2 y) from fun h => h2 h.2)]
      exact (if_pos rfl).trans (if_neg (show ¬ ((1 : Int) = 0) by decide))
  · rw [if_neg h1, if_neg (show ¬ (fits 2 x ∧ fits 2 y) from fun h => h1 h.1)]
    exact if_neg (show ¬ ((1 : Int) = 0) by decide)
/-- From where, of bytes. -/
def copyOfS (s : ByteArray) : Int × Int × Int × Int := if s.size < 4 then (0, 0, 0, 2) else ((bytesOf s).getD 0 0 * 256 + (bytesOf s).getD 1 0, (bytesOf s).getD 2 0 * 256 + (bytesOf s).getD 3 0, 4, 0)
theorem CopyOf_f (s : ByteArray) (hs : s.size ≤ 4611686018427387904) : plain_CopyOf.f s = some (copyOfS s) := by
  unfold plain_CopyOf.f copyOfS
  refine bind_eq (show octets_New.f s = some (s, 0, 0) from rfl) ?_
  by_cases h4 : s.size < 4
  · rw [if_pos h4]
    obtain ⟨v1, p1, e1, q1, a1, b1, c1, d1⟩ := int_any s hs 0 0 2 (by omega) (by omega) (.inl rfl) (by omega)
    obtain ⟨v2, p2, e2, q2, a2, b2, c2, d2⟩ := int_any s hs p1 e1 2 a1 b1 c1 (by omega)
    have hne : e2 = 2 := by
      rcases c2 with h | h
      · obtain ⟨h1, r1⟩ := d2 h
        obtain ⟨h0, r0⟩ := d1 h1
        omega
      · exact h
    subst hne
    refine bind_eq q1 ?_
    refine bind_eq q2 ?_
    refine bind_eq (show octets_Cursor_Err.f s p2 2 = some (2, s, p2, 2) from rfl) ?_
    rw [if_neg (show ¬ ((2 : Int) = 0) by decide)]
  · rw [if_neg h4]
    refine bind_eq (int2_ok s hs 0 (by omega)) ?_
    refine bind_eq (int2_ok s hs 2 (by omega)) ?_
    refine bind_eq (show octets_Cursor_Err.f s ((2 + 2 : Nat) : Int) 0 = some (0, s, ((2 + 2 : Nat) : Int), 0) from rfl) ?_
    rw [if_pos rfl]
    exact bind_eq (show octets_Cursor_At.f s ((2 + 2 : Nat) : Int) 0 = some (((2 + 2 : Nat) : Int), s, ((2 + 2 : Nat) : Int), 0) from rfl) rfl
theorem rint2 (K : Nat) (hK : 20 ≤ K) (s : ByteArray) (p : Nat) (h : p + 2 ≤ s.size) : miradorref01_Int.f K (s.extract p (p + 2)) = some ((bytesOf s).getD p 0 * 256 + (bytesOf s).getD (p + 1) 0) := by
  rw [rInt_f (by omega) _ (by rw [ba_size_extract]; omega), bytes_extract, two_at _ _ (by rw [bytesOf_length]; omega)]
  simp [beN]
theorem rCopyOf_f (s : ByteArray) (k : Nat) (hk : 20 ≤ k) : miradorref16_CopyOf.f k s = some (copyOfS s) := by
  unfold miradorref16_CopyOf.f copyOfS
  by_cases h4 : s.size < 4
  · rw [if_pos (by omega), if_pos h4]
  · rw [if_neg (by omega), if_neg h4, if_pos (by omega), if_pos (by omega)]
    refine bind_eq (rint2 k hk s 0 (by omega)) ?_
    rw [if_pos (by omega), if_pos (by omega)]
    exact bind_eq (rint2 k hk s 2 (by omega)) rfl
theorem PlainCopies : miradorlaw16_PlainCopies.Pure := by
  intro x y s hx hy hs
  refine ⟨200, ?_⟩
  unfold miradorlaw16_PlainCopies.f
  refine bind_eq miradorlaw16_works.at0 ?_
  rw [if_pos rfl]
  by_cases h400 : (s.size : Int) > 400
  · rw [if_pos h400]
  rw [if_neg h400]
  refine bind_eq (Copy_f x y 200 (by omega)) ?_
  refine bind_eq (rCopy_f x y (wf64 hx).2 (wf64 hy).2 200 (by omega)) ?_
  refine bind_eq (CopyOf_f s (by omega)) ?_
  refine bind_eq (rCopyOf_f s 200 (by omega)) ?_
  rw [if_pos rfl, if_pos rfl, if_pos rfl, if_pos rfl, if_pos rfl]
  simp only [miradorlaw16_PlainCopies.j0]
  rw [if_neg (by simp)]
  unfold copyS
  by_cases hf : fits 2 x ∧ fits 2 y
  · obtain ⟨f1, f2⟩ := hf
    have l1 := beL_length f1
    have l2 := beL_length f2
    have hz : (strOfNums (beL 2 x ++ beL 2 y)).size = 4 := by rw [strOfNums_size, List.length_append]; omega
    have hsz : (strOfNums (beL 2 x ++ beL 2 y) ++ s).size = 4 + s.size := by rw [ba_size_append, hz]
    have hb : bytesOf (strOfNums (beL 2 x ++ beL 2 y) ++ s) = [x / 256, x % 256, y / 256, y % 256] ++ bytesOf s := by
      rw [bytes_append, bytes_str (fun q hq => by
        rcases List.mem_append.1 hq with h | h
        · exact beL_range f1 q h
        · exact beL_range f2 q h)]
      rfl
    rw [if_pos (show fits 2 x ∧ fits 2 y from ⟨f1, f2⟩)]
    refine (if_pos rfl).trans ?_
    rw [if_pos (show (strOfNums (beL 2 x ++ beL 2 y)).size + s.size ≤ 9223372036854775807 by omega)]
    have hco : copyOfS (strOfNums (beL 2 x ++ beL 2 y) ++ s) = (x, y, 4, 0) := by
      unfold copyOfS
      rw [if_neg (by omega), hb]
      simp only [List.cons_append, List.getD_cons_zero, List.getD_cons_succ]
      rw [show x / 256 * 256 + x % 256 = x by omega, show y / 256 * 256 + y % 256 = y by omega]
    refine bind_eq ((CopyOf_f (strOfNums (beL 2 x ++ beL 2 y) ++ s) (by omega)).trans (congrArg some hco)) ?_
    simp
  · rw [if_neg hf]
    refine (if_neg (show ¬ ((1 : Int) = 0) by decide)).trans ?_
    rw [if_pos trivial, show ((⟨#[]⟩ : ByteArray), (1 : Int)).1.toList = [] from ba_eq_nil.2 rfl]
    rfl
end Go.Proofs.Ytloigmonfbfieaa.Pure
