/- A format's sixteen bytes, and the format of bytes: the document's functions. No condition. -/
import Derived.Test.YtclikkhkhoicfaaFM2
import Derived.Test.YtclikkhkhoicfaaFM9
import Derived.Test.YtclikkhkhoicfaaOD
import Derived.Test.YtclikkhkhoicfaaXx28
namespace Go.Proofs.Ytclikkhkhoicfaa.F
open Go.RowKit Go.Proofs.YtclikkhkhoicfaaW.PrintWords Go.Proofs.YtclikkhkhoicfaaW.PrintLast Go.Proofs.YtclikkhkhoicfaaW.PrintMore Go.Proofs.Ytclikkhkhoicfaa.B Go.Proofs.Ytclikkhkhoicfaa.O
set_option linter.unusedVariables false
set_option linter.unusedSimpArgs false
theorem rparse_short (K : Nat) (s : ByteArray) (hs : s.size < 16) : X.miradorref13_Parse.f K s = some (0, 0, false, false, 0, 0, 0, 0, 0, 0, 2) := by
  unfold X.miradorref13_Parse.f
  rw [if_pos (by omega)]
theorem bt_nth' (s : ByteArray) (i : Nat) (j : Int) (hj : j = i) : bt s j = (bytesOf s).getD i 0 := by
  subst hj
  rw [← rd_bytesOf]; simp only [rd, Int.toNat_natCast]
theorem rint2 (K : Nat) (hK : 20 ≤ K) (s : ByteArray) (p : Nat) (h : p + 2 ≤ s.size) : X.miradorref01_Int.f K (s.extract p (p + 2)) = some ((bytesOf s).getD p 0 * 256 + (bytesOf s).getD (p + 1) 0) := by
  rw [rInt_f (by omega) _ (by rw [ba_size_extract]; omega), bytes_extract, two_at _ _ (by rw [bytesOf_length]; omega)]
  simp [beN]
theorem rparse_long (K : Nat) (hK : 30 ≤ K) (s : ByteArray) (h16 : 16 ≤ s.size) (l : List Int) (hl : bytesOf s = l) (b : Bool)
    (hb : X.miradorref13_Valid.f K (l.getD 0 0) (l.getD 1 0) (l.getD 2 0 != 0) (l.getD 3 0 != 0) (l.getD 4 0 * 256 + l.getD 5 0) (l.getD 6 0 * 256 + l.getD 7 0) (l.getD 8 0 * 256 + l.getD 9 0) (l.getD 10 0) (l.getD 11 0) (l.getD 12 0) = some b) :
    X.miradorref13_Parse.f K s = some (if b = true then (l.getD 0 0, l.getD 1 0, (l.getD 2 0 != 0), (l.getD 3 0 != 0), l.getD 4 0 * 256 + l.getD 5 0, l.getD 6 0 * 256 + l.getD 7 0, l.getD 8 0 * 256 + l.getD 9 0, l.getD 10 0, l.getD 11 0, l.getD 12 0, 0) else (0, 0, false, false, 0, 0, 0, 0, 0, 0, 130)) := by
  subst hl
  have hw : ∀ j, wrap64 (bt s j) = bt s j := fun j => by have := bt_range s j; rw [w64 (by omega) (by omega)]
  unfold X.miradorref13_Parse.f
  rw [if_neg (by omega), if_pos (by omega), if_pos (by omega), if_pos (by omega), if_pos (by omega), if_pos (by omega), if_pos (by omega)]
  refine bind_eq (rint2 K (by omega) s 4 (by omega)) ?_
  rw [if_pos (by omega), if_pos (by omega)]
  refine bind_eq (rint2 K (by omega) s 6 (by omega)) ?_
  rw [if_pos (by omega), if_pos (by omega)]
  refine bind_eq (rint2 K (by omega) s 8 (by omega)) ?_
  rw [if_pos (by omega), if_pos (by omega), if_pos (by omega), hw, hw, hw, hw, hw, bt_nth' s 0 0 rfl, bt_nth' s 1 1 rfl, bt_nth' s 2 2 rfl, bt_nth' s 3 3 rfl, bt_nth' s 10 10 rfl, bt_nth' s 11 11 rfl, bt_nth' s 12 12 rfl]
  refine bind_eq hb ?_
  cases b <;> rfl
end Go.Proofs.Ytclikkhkhoicfaa.F
