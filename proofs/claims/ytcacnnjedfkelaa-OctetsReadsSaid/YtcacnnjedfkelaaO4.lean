/- The cursor's contracts with plain answers, for walks over several cursors. No condition. -/
import Derived.Test.YtcacnnjedfkelaaO2
import Derived.Test.YtcacnnjedfkelaaO3
import Derived.Deep.QuietTactic
import Derived.BigQuiet
namespace Go.Proofs.Ytcacnnjedfkelaa.O
open Go.RowKit Go.Proofs.Ytcacnnjedfkelaa.X Go.Proofs.Ytcacnnjedfkelaa.B Go.Proofs.YtcacnnjedfkelaaW.PrintWords Go.Proofs.YtcacnnjedfkelaaW.PrintLast Go.Proofs.YtcacnnjedfkelaaW.PrintMore
set_option linter.unusedVariables false
set_option linter.unusedSimpArgs false
theorem cur_keep {w0 W W1 : World} {g g' : Nat} {s : ByteArray} {p e : Int} (h : IsS46 w0 W g s p e) (hk : KeepBut W W1 g' none) (hne : g ≠ g') : IsS46 w0 W1 g s p e := by
  obtain ⟨hb, hg⟩ := h
  exact ⟨KeepBut.blk hk hb hne (by simp), hg⟩
theorem new_c (s : ByteArray) (w0 w : World) (hB : Below w0.heap.size w0 w) :
    Calls Try.prog 15 #[.string s] w fun e w' => ∃ g, e = .returned (.pointer (some ⟨g, 0, none⟩)) ∧ IsS46 w0 w' g s 0 0 ∧ Below w0.heap.size w0 w' ∧ Below w.heap.size w w' ∧ w.heap.size ≤ g := by
  refine (octets_New.calls s s 0 0 w w (Below.refl _ _) rfl).mono ?_
  rintro e w' ⟨g, rfl, ⟨hb, hg⟩, h1, h2⟩
  exact ⟨g, rfl, ⟨hb, Nat.le_trans hB.size hg⟩, hB.trans (h2.mono hB.size), h2, hg⟩
theorem bytes_c (g : Nat) (s : ByteArray) (p e n : Int) (x : ByteArray) (p' e' : Int) (w0 w : World) (hs : s.size ≤ 4611686018427387904) (h0 : 0 ≤ p) (h1 : p ≤ s.size) (hr : rdB s p e n = (x, p', e')) (hI : IsS46 w0 w g s p e) (hB : Below w0.heap.size w0 w) :
    Calls Try.prog 16 #[.pointer (some ⟨g, 0, none⟩), .int .i64 n] w fun r w' => r = .returned (.string x) ∧ IsS46 w0 w' g s p' e' ∧ Below w0.heap.size w0 w' ∧ KeepBut w w' g none :=
  octets_Cursor_Bytes.calls g s p e n x s p' e' w0 w hI hB (by rw [Bytes_f s p e n hs h0 h1, hr])
theorem at_c (g : Nat) (s : ByteArray) (p e : Int) (w0 w : World) (hI : IsS46 w0 w g s p e) (hB : Below w0.heap.size w0 w) :
    Calls Try.prog 17 #[.pointer (some ⟨g, 0, none⟩)] w fun r w' => r = .returned (.int .i64 p) ∧ IsS46 w0 w' g s p e ∧ Below w0.heap.size w0 w' ∧ KeepBut w w' g none :=
  octets_Cursor_At.calls g s p e p s p e w0 w hI hB rfl
theorem err_c (g : Nat) (s : ByteArray) (p e : Int) (w0 w : World) (hI : IsS46 w0 w g s p e) (hB : Below w0.heap.size w0 w) :
    Calls Try.prog 19 #[.pointer (some ⟨g, 0, none⟩)] w fun r w' => r = .returned (.int .i64 e) ∧ IsS46 w0 w' g s p e ∧ Below w0.heap.size w0 w' ∧ KeepBut w w' g none :=
  octets_Cursor_Err.calls g s p e e s p e w0 w hI hB rfl
def endE (s : ByteArray) (p e : Int) : Int := if e = 0 ∧ p < s.size then 3 else e
theorem end_c (g : Nat) (s : ByteArray) (p e : Int) (w0 w : World) (hs : s.size ≤ 4611686018427387904) (h0 : 0 ≤ p) (h1 : p ≤ s.size) (hI : IsS46 w0 w g s p e) (hB : Below w0.heap.size w0 w) :
    Calls Try.prog 18 #[.pointer (some ⟨g, 0, none⟩)] w fun e' w' => e' = .returned (.int .i64 (endE s p e)) ∧ IsS46 w0 w' g s p e ∧ Below w0.heap.size w0 w' ∧ KeepBut w w' g none :=
  octets_Cursor_End.calls g s p e _ s p e w0 w hI hB (End_f s p e hs h0 h1)
theorem left_c (g : Nat) (s : ByteArray) (p e : Int) (w0 w : World) (hs : s.size ≤ 4611686018427387904) (h0 : 0 ≤ p) (h1 : p ≤ s.size) (hI : IsS46 w0 w g s p e) (hB : Below w0.heap.size w0 w) :
    Calls Try.prog 27 #[.pointer (some ⟨g, 0, none⟩)] w fun e' w' => e' = .returned (.int .i64 ((s.size : Int) - p)) ∧ IsS46 w0 w' g s p e ∧ Below w0.heap.size w0 w' ∧ KeepBut w w' g none :=
  octets_Cursor_Left.calls g s p e _ s p e w0 w hI hB (Left_f s p e hs h0 h1)
theorem int_c (g : Nat) (s : ByteArray) (p e n : Int) (v p' e' : Int) (w0 w : World) (hs : s.size ≤ 4611686018427387904) (h0 : 0 ≤ p) (h1 : p ≤ s.size) (hr : (beN (bytesOf (rdB s p (asked e n) n).1), (rdB s p (asked e n) n).2.1, (rdB s p (asked e n) n).2.2) = (v, p', e')) (hI : IsS46 w0 w g s p e) (hB : Below w0.heap.size w0 w) :
    Calls Try.prog 20 #[.pointer (some ⟨g, 0, none⟩), .int .i64 n] w fun r w' => r = .returned (.int .i64 v) ∧ IsS46 w0 w' g s p' e' ∧ Below w0.heap.size w0 w' ∧ KeepBut w w' g none := by
  simp only [Prod.mk.injEq] at hr
  exact octets_Cursor_Int.calls g s p e n v s p' e' w0 w hI hB (by rw [Int_f s p e n hs h0 h1, hr.1, hr.2.1, hr.2.2])
theorem little_c (g : Nat) (s : ByteArray) (p e n : Int) (v p' e' : Int) (w0 w : World) (hs : s.size ≤ 4611686018427387904) (h0 : 0 ≤ p) (h1 : p ≤ s.size) (hr : (beN (bytesOf (rdB s p (asked e n) n).1).reverse, (rdB s p (asked e n) n).2.1, (rdB s p (asked e n) n).2.2) = (v, p', e')) (hI : IsS46 w0 w g s p e) (hB : Below w0.heap.size w0 w) :
    Calls Try.prog 23 #[.pointer (some ⟨g, 0, none⟩), .int .i64 n] w fun r w' => r = .returned (.int .i64 v) ∧ IsS46 w0 w' g s p' e' ∧ Below w0.heap.size w0 w' ∧ KeepBut w w' g none := by
  simp only [Prod.mk.injEq] at hr
  exact octets_Cursor_Little.calls g s p e n v s p' e' w0 w hI hB (by rw [LittleC_f s p e n hs h0 h1, hr.1, hr.2.1, hr.2.2])
theorem signed_c (g : Nat) (s : ByteArray) (p e : Int) (v p' e' : Int) (w0 w : World) (hs : s.size ≤ 4611686018427387904) (h0 : 0 ≤ p) (h1 : p ≤ s.size) (hr : (wrap64 (wrap32 (beN (bytesOf (rdB s p e 4).1))), (rdB s p e 4).2.1, (rdB s p e 4).2.2) = (v, p', e')) (hI : IsS46 w0 w g s p e) (hB : Below w0.heap.size w0 w) :
    Calls Try.prog 21 #[.pointer (some ⟨g, 0, none⟩)] w fun r w' => r = .returned (.int .i64 v) ∧ IsS46 w0 w' g s p' e' ∧ Below w0.heap.size w0 w' ∧ KeepBut w w' g none := by
  simp only [Prod.mk.injEq] at hr
  exact octets_Cursor_Signed.calls g s p e v s p' e' w0 w hI hB (by rw [CSigned_f s p e hs h0 h1, hr.1, hr.2.1, hr.2.2])
theorem works_c (w : World) : Calls Try.prog 8 #[] w fun e w' => e = .returned (.bool true) ∧ Below w.heap.size w w' := miradorlaw01_works.calls 10 true w works10
/-- Err changes nothing. -/
theorem err_q (g : Nat) (s : ByteArray) (p e : Int) (w0 w : World) (hI : IsS46 w0 w g s p e) :
    Calls Try.prog 19 #[.pointer (some ⟨g, 0, none⟩)] w fun r w' => r = .returned (.int .i64 e) ∧ w = w' := by
  obtain ⟨hb, hg⟩ := hI
  have hc := cellS46_2 hb
  clear hb hg
  go_enter Try.func19, Try.ntmps19
  go_wp2
  go_ret
  exact ⟨rfl, rfl⟩
/-- A cursor that has an error tells nothing more. -/
theorem rdB_err (s : ByteArray) (p e n : Int) (h : e ≠ 0) : rdB s p e n = (⟨#[]⟩, p, e) := by unfold rdB; rw [if_pos h]
theorem asked_err (e n : Int) (h : e ≠ 0) : asked e n = e := by unfold asked; rw [if_neg (fun z => h z.1)]
/-- An element of a row that came in. -/
theorem elem_at {w : World} {A : Option Addr} {l : List Int} (h : ReadsInt w .i64 A l.length l) (k : Nat) (hk : k < l.length) : ∃ ad, A = some ad ∧ ∀ wx, Below w.heap.size w wx → wx.cell? (ad.add k) = some (.int .i64 (l.getD k 0)) := by
  obtain ⟨ad, e, hc⟩ := h.2.2 (by omega)
  exact ⟨ad, e, fun wx hb => pw_cell_below hb (hc k hk)⟩
theorem at_q (g : Nat) (s : ByteArray) (p e : Int) (w0 w : World) (hI : IsS46 w0 w g s p e) :
    Calls Try.prog 17 #[.pointer (some ⟨g, 0, none⟩)] w fun r w' => r = .returned (.int .i64 p) ∧ w = w' := by
  obtain ⟨hb, hg⟩ := hI
  have hc := cellS46_1 hb
  clear hb hg
  go_enter Try.func17, Try.ntmps17
  go_wp2
  go_ret
  exact ⟨rfl, rfl⟩
theorem left_q (g : Nat) (s : ByteArray) (p e : Int) (w0 w : World) (hs : s.size ≤ 4611686018427387904) (h0 : 0 ≤ p) (h1 : p ≤ s.size) (hI : IsS46 w0 w g s p e) :
    Calls Try.prog 27 #[.pointer (some ⟨g, 0, none⟩)] w fun r w' => r = .returned (.int .i64 ((s.size : Int) - p)) ∧ ∃ m, w' = w.drewN m := by
  obtain ⟨hb, hg⟩ := hI
  have hc := cellS46_1 hb
  have hc0 := cellS46_0 hb
  have hsub : IntKind.i64.wrap ((s.size : Int) - p) = (s.size : Int) - p := by rw [IntKind.wrap_i64]; omega
  clear hb hg
  go_enter Try.func27, Try.ntmps27
  go_wp2
  go_quiet (fail)
  go_wp2
  go_ret
  exact ⟨rfl, _, rfl⟩
theorem end_q (g : Nat) (s : ByteArray) (p e : Int) (w0 w : World) (hs : s.size ≤ 4611686018427387904) (h0 : 0 ≤ p) (h1 : p ≤ s.size) (hI : IsS46 w0 w g s p e) :
    Calls Try.prog 18 #[.pointer (some ⟨g, 0, none⟩)] w fun r w' => r = .returned (.int .i64 (endE s p e)) ∧ ∃ m, w' = w.drewN m := by
  have HI := Lib.hid hI
  obtain ⟨hb, hg⟩ := hI
  have hc := cellS46_2 hb
  clear hb hg
  by_cases he : e = 0
  · subst he
    by_cases hp : p < s.size
    · have HE : Hid (endE s p 0 = 3) := Lib.hid (by unfold endE; rw [if_pos ⟨rfl, hp⟩])
      have hd : decide (0 < (s.size : Int) - p) = true := decide_eq_true (by omega)
      go_enter Try.func18, Try.ntmps18
      go_wp2_with (go_at_call 27; refine (left_q g s p 0 w0 _ hs h0 h1 HI.out).mono ?_; rintro e _ ⟨rfl, m, rfl⟩)
      go_ret
      exact ⟨by rw [HE.out]; rfl, _, rfl⟩
    · have HE : Hid (endE s p 0 = 0) := Lib.hid (by unfold endE; rw [if_neg (fun h => hp h.2)])
      have hd : decide (0 < (s.size : Int) - p) = false := decide_eq_false (by omega)
      go_enter Try.func18, Try.ntmps18
      go_wp2_with (go_at_call 27; refine (left_q g s p 0 w0 _ hs h0 h1 HI.out).mono ?_; rintro e _ ⟨rfl, m, rfl⟩)
      go_ret
      exact ⟨by rw [HE.out]; rfl, _, rfl⟩
  · have HE : Hid (endE s p e = e) := Lib.hid (by unfold endE; rw [if_neg (fun h => he h.1)])
    have b1 : (e == 0) = false := by simpa using he
    clear he
    go_enter Try.func18, Try.ntmps18
    go_wp2
    go_ret
    exact ⟨by rw [HE.out]; rfl, 0, rfl⟩
end Go.Proofs.Ytcacnnjedfkelaa.O
