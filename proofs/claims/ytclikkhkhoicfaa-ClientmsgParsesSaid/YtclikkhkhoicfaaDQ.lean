import Derived.Test.YtclikkhkhoicfaaCL2
import Derived.Test.YtclikkhkhoicfaaOD
import Derived.Test.YtclikkhkhoicfaaXx23
import Derived.Test.YtclikkhkhoicfaaXx25
import Derived.Test.YtclikkhkhoicfaaXx29
/-! The document's cursor answers as the program's does: plain, and as contracts over CS. -/
namespace Go.Proofs.Ytclikkhkhoicfaa.O
open Go.RowKit Go.Proofs.Ytclikkhkhoicfaa.X Go.Proofs.Ytclikkhkhoicfaa.B Go.Proofs.YtclikkhkhoicfaaW.PrintWords Go.Proofs.YtclikkhkhoicfaaW.PrintLast Go.Proofs.YtclikkhkhoicfaaW.PrintMore
set_option linter.unusedVariables false
set_option linter.unusedSimpArgs false
theorem rSize_f (n : Int) : miradorref01_Size.f n = some (decide (n = 1 ∨ n = 2 ∨ n = 4)) := by
  unfold miradorref01_Size.f
  by_cases h1 : n = 1
  · simp [h1]
  · by_cases h2 : n = 2
    · simp [h2]
    · by_cases h4 : n = 4
      · simp [h4]
      · simp [h1, h2, h4]
theorem rBytes_f (s : ByteArray) (p e n : Int) (hs : s.size ≤ 4611686018427387904) (h0 : 0 ≤ p) (h1 : p ≤ s.size) : miradorref01_Cursor_Bytes.f s p e n = some ((rdB s p e n).1, s, (rdB s p e n).2.1, (rdB s p e n).2.2) := by
  unfold miradorref01_Cursor_Bytes.f rdB
  by_cases he : e = 0
  · subst he
    have e1 : wrap64 ((s.size : Int) - p) = (s.size : Int) - p := w64 (by omega) (by omega)
    by_cases hn : n < 0
    · simp [hn]
    · by_cases hn2 : n > (s.size : Int) - p
      · simp [hn, e1, hn2]
      · have e2 : wrap64 (p + n) = p + n := w64 (by omega) (by omega)
        simp [hn, e1, hn2, e2, h0]
        omega
  · simp [he]
theorem rCInt_f {k : Nat} (hk : 8 ≤ k) (s : ByteArray) (p e n : Int) (hs : s.size ≤ 4611686018427387904) (h0 : 0 ≤ p) (h1 : p ≤ s.size) :
    miradorref01_Cursor_Int.f k s p e n = some (beN (bytesOf (rdB s p (asked e n) n).1), s, (rdB s p (asked e n) n).2.1, (rdB s p (asked e n) n).2.2) := by
  obtain ⟨k, rfl⟩ : ∃ m, k = m + 1 := ⟨k - 1, by omega⟩
  have hz := asked_size s p e n h0 h1
  unfold miradorref01_Cursor_Int.f
  by_cases he : e = 0
  · rw [if_pos he, rSize_f, Option.bind_some, miradorref01_Cursor_Int.j0]
    by_cases hw : n = 1 ∨ n = 2 ∨ n = 4
    · have ha : asked e n = e := by unfold asked; rw [if_neg (fun h => h.2 hw)]
      rw [if_neg (by simp [hw]), rBytes_f s p e n hs h0 h1, Option.bind_some]
      rw [ha] at hz ⊢
      rw [rInt_f (by omega) _ hz]
      rfl
    · have ha : asked e n = 1 := by unfold asked; rw [if_pos ⟨he, hw⟩]
      rw [if_pos (by simp [hw]), rBytes_f s p 1 n hs h0 h1, Option.bind_some]
      rw [ha] at hz ⊢
      rw [rInt_f (by omega) _ hz]
      rfl
  · have ha : asked e n = e := by unfold asked; rw [if_neg (fun h => he h.1)]
    rw [if_neg he, miradorref01_Cursor_Int.j0, if_neg (by decide), rBytes_f s p e n hs h0 h1, Option.bind_some]
    rw [ha] at hz ⊢
    rw [rInt_f (by omega) _ hz]
    rfl
theorem minus_f (x : Int) (h0 : 0 ≤ x) (h1 : x < 4294967296) : miradorref01_Minus.f x = some (wrap64 (wrap32 x)) := by
  unfold miradorref01_Minus.f
  by_cases h : x > 2147483647
  · rw [if_pos h]; congr 1; unfold wrap64 wrap32; omega
  · rw [if_neg h]; congr 1; unfold wrap64 wrap32; omega
theorem rCSigned_f {k : Nat} (hk : 8 ≤ k) (s : ByteArray) (p e : Int) (hs : s.size ≤ 4611686018427387904) (h0 : 0 ≤ p) (h1 : p ≤ s.size) :
    miradorref01_Cursor_Signed.f k s p e = some (wrap64 (wrap32 (beN (bytesOf (rdB s p e 4).1))), s, (rdB s p e 4).2.1, (rdB s p e 4).2.2) := by
  have ha : asked e 4 = e := by unfold asked; rw [if_neg (by omega)]
  have hz := asked_size s p e 4 h0 h1
  unfold miradorref01_Cursor_Signed.f
  rw [rCInt_f hk s p e 4 hs h0 h1]
  rw [ha] at hz ⊢
  simp only [Option.bind_some]
  obtain ⟨c0, c1⟩ := beN_small (bytesOf (rdB s p e 4).1) (bytes_range _) (by rw [bytesOf_length]; exact hz)
  rw [minus_f _ c0 (by omega)]
  rfl
end Go.Proofs.Ytclikkhkhoicfaa.O
namespace Go.Proofs.Ytclikkhkhoicfaa.H
open Go.RowKit Go.Proofs.Ytclikkhkhoicfaa.X Go.Proofs.Ytclikkhkhoicfaa.B Go.Proofs.Ytclikkhkhoicfaa.O Go.Proofs.YtclikkhkhoicfaaW.PrintWords Go.Proofs.YtclikkhkhoicfaaW.PrintLast Go.Proofs.YtclikkhkhoicfaaW.PrintMore
set_option linter.unusedVariables false
set_option linter.unusedSimpArgs false
/-- The document's cursor, in block g. -/
def Du (w0 : World) (g : Nat) (q : CS) (W : World) : Prop := IsS58 w0 W g q.s q.at_ q.ce ∧ Below w0.heap.size w0 W
theorem Du.lt {w0 : World} {g : Nat} {q : CS} {W : World} (h : Du w0 g q W) : g < W.heap.size := blk_lt h.1.1
theorem Du.ge {w0 : World} {g : Nat} {q : CS} {W : World} (h : Du w0 g q W) : w0.heap.size ≤ g := h.1.2
theorem Du.low {w0 : World} {g : Nat} {q : CS} {W : World} (h : Du w0 g q W) : Below w0.heap.size w0 W := h.2
theorem Du.below {w0 : World} {g : Nat} {q : CS} {W W1 : World} (h : Du w0 g q W) (hb : Below W.heap.size W W1) : Du w0 g q W1 := ⟨h.1.below hb, h.2.trans (hb.mono h.2.size)⟩
theorem Du.drew {w0 : World} {g : Nat} {q : CS} {W : World} (h : Du w0 g q W) : Du w0 g q W.drew := ⟨h.1.drew, Below.drew h.2⟩
theorem Du.row {w0 : World} {g : Nat} {q : CS} {W : World} (h : Du w0 g q W) {k : Nat} (h1 : k ≠ g) (h2 : w0.heap.size ≤ k) (cs : Array Value) : Du w0 g q (W.setRow k cs) :=
  ⟨⟨(setRow_other W k g cs (fun e => h1 e.symm)).trans h.1.1, h.1.2⟩, ⟨h.2.os, h.2.tape, h.2.output, by simpa [World.setRow] using h.2.size, fun i hi => (setRow_other W k i cs (by omega)).trans (h.2.block i hi)⟩⟩
theorem Du.far {w0 : World} {g : Nat} {q : CS} {W : World} (h : Du w0 g q W) {p : Addr} (h1 : p.block ≠ g) (h2 : w0.heap.size ≤ p.block) (u : Value) : Du w0 g q (W.setCell p u) := by
  have hk := Kept.setCell (S := fun k => k = p.block) (p := p) (Kept.refl W _) (.inl rfl) u
  exact ⟨h.1.kept hk (fun e => h1 e.symm), h.2.setCell (p := p) h2 u⟩
theorem Du.grown {w0 : World} {g : Nat} {q : CS} {W W1 : World} {row : Option Nat} (h : Du w0 g q W) (hg : W.grownBy W1 row) (h2 : some g ≠ row) (h3 : ∀ k, row = some k → w0.heap.size ≤ k) : Du w0 g q W1 :=
  ⟨⟨(hg.block g h.lt h2).trans h.1.1, h.1.2⟩, ⟨hg.os.trans h.low.os, hg.tape.trans h.low.tape, hg.output.trans h.low.output, Nat.le_trans h.low.size hg.size, fun k hk => (hg.block k (by have := h.low.size; omega) (fun e => by have := h3 k e.symm; omega)).trans (h.low.block k hk)⟩⟩
theorem rint_k (w0 : World) (g : Nat) (q : CS) (n r : Int) (q' : CS) (W : World) (h : Du w0 g q W) (ho : Ok q) (hn : n = 1 ∨ n = 2 ∨ n = 4) (hf : intC q n = some (r, q')) :
    Calls Try.prog 20 #[.pointer (some ⟨g, 0, none⟩), .int .i64 n] W fun e W' => e = .returned (.int .i64 r) ∧ Du w0 g q' W' ∧ KeptC g W W' := by
  rw [intC_eq q n hn ho] at hf
  obtain ⟨rfl, rfl⟩ := Prod.mk.inj (Option.some.inj hf)
  have e1 := rCInt_f (k := 40) (by omega) q.s q.at_ q.ce n ho.1 ho.2.1 ho.2.2.1
  rw [asked_e hn] at e1
  refine (miradorref01_Cursor_Int.calls 40 g q.s q.at_ q.ce n _ _ _ _ w0 W h.1 h.2 e1).mono ?_
  rintro e W' ⟨rfl, hi, hb, hk⟩
  exact ⟨rfl, ⟨hi, hb⟩, KeptC.but hk⟩
theorem rbytes_k (w0 : World) (g : Nat) (q : CS) (n : Int) (r : ByteArray) (q' : CS) (W : World) (h : Du w0 g q W) (ho : Ok q) (hf : bytesC q n = some (r, q')) :
    Calls Try.prog 21 #[.pointer (some ⟨g, 0, none⟩), .int .i64 n] W fun e W' => e = .returned (.string r) ∧ Du w0 g q' W' ∧ KeptC g W W' := by
  rw [bytesC_eq q n ho] at hf
  obtain ⟨rfl, rfl⟩ := Prod.mk.inj (Option.some.inj hf)
  refine (miradorref01_Cursor_Bytes.calls g q.s q.at_ q.ce n _ _ _ _ w0 W h.1 h.2 (rBytes_f q.s q.at_ q.ce n ho.1 ho.2.1 ho.2.2.1)).mono ?_
  rintro e W' ⟨rfl, hi, hb, hk⟩
  exact ⟨rfl, ⟨hi, hb⟩, KeptC.but hk⟩
theorem rsigned_k (w0 : World) (g : Nat) (q : CS) (r : Int) (q' : CS) (W : World) (h : Du w0 g q W) (ho : Ok q) (hf : signedC q = some (r, q')) :
    Calls Try.prog 23 #[.pointer (some ⟨g, 0, none⟩)] W fun e W' => e = .returned (.int .i64 r) ∧ Du w0 g q' W' ∧ KeptC g W W' := by
  rw [signedC_eq q ho] at hf
  obtain ⟨rfl, rfl⟩ := Prod.mk.inj (Option.some.inj hf)
  refine (miradorref01_Cursor_Signed.calls 40 g q.s q.at_ q.ce _ _ _ _ w0 W h.1 h.2 (rCSigned_f (by omega) q.s q.at_ q.ce ho.1 ho.2.1 ho.2.2.1)).mono ?_
  rintro e W' ⟨rfl, hi, hb, hk⟩
  exact ⟨rfl, ⟨hi, hb⟩, KeptC.but hk⟩
end Go.Proofs.Ytclikkhkhoicfaa.H
