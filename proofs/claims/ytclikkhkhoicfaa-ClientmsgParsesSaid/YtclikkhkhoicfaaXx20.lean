/- What each Go function that these laws use answers: as a Lean function, with the proof that the machine's call comes to it. Written by a program of this session (xprint.py). -/
import Derived.Test.YtclikkhkhoicfaaXx0
namespace Go.Proofs.Ytclikkhkhoicfaa.X
open Go.RowKit Go.Proofs.YtclikkhkhoicfaaW.PrintWords Go.Proofs.YtclikkhkhoicfaaW.PrintLast Go.Proofs.YtclikkhkhoicfaaW.PrintMore
attribute [local go_sem] max2_int min2_int max_two min_two max_three min_three max_four min_four   -- for this text's walks alone
set_option linter.unusedVariables false
set_option linter.unusedSimpArgs false

/-! ### clientmsg_reader_reading: function 18 -/
set_option maxHeartbeats 2000000 in
set_option maxRecDepth 100000 in
theorem reading_c (g : Nat) (n : Int) (fn : FuncId) (W : World) (hn : (n = 0 ∧ fn = 34) ∨ (n = 2 ∧ fn = 35) ∨ (n = 3 ∧ fn = 36) ∨ (n = 4 ∧ fn = 37) ∨ (n = 5 ∧ fn = 38) ∨ (n = 6 ∧ fn = 39)) :
    Calls Try.prog 18 #[.agg #[.pointer (some ⟨g, 0, none⟩)], .int .i64 n] W fun e W' => e = .returned (.tuple #[.func (.func fn) #[.agg #[.pointer (some ⟨g, 0, none⟩)]] #[], .bool true]) ∧ Below W.heap.size W W' := by
  have hb := below_alloc (Below.refl W.heap.size W) (.cells #[.pointer (some ⟨g, 0, none⟩)] 48)
  have HB := Lib.hid hb
  clear hb
  rcases hn with ⟨rfl, rfl⟩ | ⟨rfl, rfl⟩ | ⟨rfl, rfl⟩ | ⟨rfl, rfl⟩ | ⟨rfl, rfl⟩ | ⟨rfl, rfl⟩ <;>
  · go_enter Try.func18, Try.ntmps18
    go_wp2_with fail
    go_ret2
    exact ⟨rfl, HB.out⟩
set_option maxHeartbeats 2000000 in
set_option maxRecDepth 100000 in
theorem reading_no (g : Nat) (n : Int) (W : World) (h0 : n ≠ 0) (h2 : n ≠ 2) (h3 : n ≠ 3) (h4 : n ≠ 4) (h5 : n ≠ 5) (h6 : n ≠ 6) :
    Calls Try.prog 18 #[.agg #[.pointer (some ⟨g, 0, none⟩)], .int .i64 n] W fun e W' => e = .returned (.tuple #[.nilFunc, .bool false]) ∧ Below W.heap.size W W' := by
  have hb := below_alloc (Below.refl W.heap.size W) (.cells #[.pointer (some ⟨g, 0, none⟩)] 48)
  have HB := Lib.hid hb
  have e0 : (n == 0) = false := by simpa using h0
  have e2 : (n == 2) = false := by simpa using h2
  have e3 : (n == 3) = false := by simpa using h3
  have e4 : (n == 4) = false := by simpa using h4
  have e5 : (n == 5) = false := by simpa using h5
  have e6 : (n == 6) = false := by simpa using h6
  clear hb h0 h2 h3 h4 h5 h6
  go_enter Try.func18, Try.ntmps18
  go_wp2_with fail
  go_ret2
  exact ⟨rfl, HB.out⟩

end Go.Proofs.Ytclikkhkhoicfaa.X
