/- What each Go function that these laws use answers: as a Lean function, with the proof that the machine's call comes to it. Written by a program of this session (xprint.py). -/
import Derived.Test.YtclikkhkhoicfaaXx0
namespace Go.Proofs.Ytclikkhkhoicfaa.X
open Go.RowKit Go.Proofs.YtclikkhkhoicfaaW.PrintWords Go.Proofs.YtclikkhkhoicfaaW.PrintLast Go.Proofs.YtclikkhkhoicfaaW.PrintMore
attribute [local go_sem] max2_int min2_int max_two min_two max_three min_three max_four min_four   -- for this text's walks alone
set_option linter.unusedVariables false
set_option linter.unusedSimpArgs false

/-! ### clientmsg_writer_text: function 48 -/
/-- A writer in block b: what was written, the error; row: where the bytes lie. -/
def Wr (B b : Nat) (acc : List UInt8) (bad : Bool) (row : Option Nat) (W : World) : Prop := ∃ cs : List Value, BL.BAt 67 B b 0 cs row (Lib.byteCells acc) W ∧ cs.length = 3 ∧ cs[2]? = some (.bool bad)
theorem Wr.cell {B b : Nat} {acc : List UInt8} {bad : Bool} {row : Option Nat} {W : World} (h : Wr B b acc bad row W) : W.cell? ⟨b, 2, none⟩ = some (.bool bad) := by
  obtain ⟨cs, h1, _, h3⟩ := h
  rw [blk_cell h1.2.1]; simpa using h3
theorem Wr.frozen {B b : Nat} {acc : List UInt8} {bad : Bool} {row : Option Nat} {W : World} (h : Wr B b acc bad row W) : W.frozen? ⟨b, 2, none⟩ = false := by
  obtain ⟨cs, h1, _, _⟩ := h
  exact blk_frozen h1.2.1 _
theorem Wr.lt {B b : Nat} {acc : List UInt8} {bad : Bool} {row : Option Nat} {W : World} (h : Wr B b acc bad row W) : b < W.heap.size := by obtain ⟨cs, h1, _⟩ := h; exact blk_lt h1.2.1
theorem Wr.le {B b : Nat} {acc : List UInt8} {bad : Bool} {row : Option Nat} {W : World} (h : Wr B b acc bad row W) : B ≤ b := by obtain ⟨cs, h1, _⟩ := h; exact h1.1
theorem Wr.row_ {B b : Nat} {acc : List UInt8} {bad : Bool} {row : Option Nat} {W : World} (h : Wr B b acc bad row W) (k : Nat) (hk : row = some k) : B ≤ k ∧ k < W.heap.size := by
  obtain ⟨cs, ⟨_, _, _, v, _, hown, hrow, _⟩, _⟩ := h
  exact ⟨own_base hown k (hrow.trans hk), own_lt hown k (hrow.trans hk)⟩
theorem Wr.keep {B b : Nat} {acc : List UInt8} {bad : Bool} {row : Option Nat} {W W1 : World} {S : Nat → Prop} (h : Wr B b acc bad row W) (hk : Kept W W1 S) (hb : ¬ S b) (hr : ∀ k, row = some k → ¬ S k) : Wr B b acc bad row W1 := by
  obtain ⟨cs, h1, h2, h3⟩ := h
  exact ⟨cs, h1.keep hk hb hr, h2, h3⟩
theorem Wr.below {B b : Nat} {acc : List UInt8} {bad : Bool} {row : Option Nat} {W W1 : World} (h : Wr B b acc bad row W) (hb : Below W.heap.size W W1) : Wr B b acc bad row W1 := h.keep (Kept.of_below hb (fun _ => False)) (fun h => h) (fun _ _ h => h)
theorem Wr.new {B b : Nat} {W : World} (h : W.heap[b]? = some (.cells #[.pointer none, .slice none 0 0, .bool false] 67 (0, 0))) (hB : B ≤ b) : Wr B b [] false none W :=
  ⟨[.pointer none, .slice none 0 0, .bool false], ⟨hB, h, .inl rfl, .slice none 0 0, rfl, World.ownsRow_nil _ _ _ _, rfl, by simp⟩, rfl, rfl⟩
theorem Wr.set_ {B b : Nat} {acc : List UInt8} {bad : Bool} {row : Option Nat} {W : World} (h : Wr B b acc bad row W) (e : Bool) : Wr B b acc e row (W.setCell ⟨b, 2, none⟩ (.bool e)) := by
  obtain ⟨cs, h1, h2, h3⟩ := h
  exact ⟨cs.set 2 (.bool e), h1.put 2 (by decide) (by decide) _ (by decide), by simpa using h2, by rw [List.getElem?_set_self (by omega)]⟩
theorem wr_lies : BL.Lies 67 3 0 := by unfold BL.Lies; kernel_rfl
/-- A text is written behind. -/
theorem write_c (B b : Nat) (acc : List UInt8) (bad : Bool) (row : Option Nat) (s : ByteArray) (W : World) (h : Wr B b acc bad row W) (hl : acc.length + s.size ≤ 140737488355328) (hB : B ≤ W.heap.size) :
    Calls Try.prog 27 #[.pointer (some ⟨b, 0, none⟩), .string s] W fun en W' => en = .returned (.tuple #[.int .i64 s.size, .nilIface]) ∧ ∃ row', Wr B b (acc ++ s.data.toList) bad row' W' ∧ (row' = row ∨ ∃ k, row' = some k ∧ W.heap.size ≤ k) ∧ Below B W W' ∧ Kept W W' (fun k => k = b ∨ row = some k) := by
  obtain ⟨cs, h1, h2, h3⟩ := h
  refine (BL.WriteString_c _ B b 0 cs row _ s W (by decide) (by rw [h2]; exact wr_lies) h1 (by rw [Lib.byteCells_length]; exact hl) hB).mono ?_
  rintro en W' ⟨rfl, v, row', k1, k2, k3, k4⟩
  refine ⟨rfl, row', ⟨(cs.set 0 (.pointer (some ⟨b, 0, none⟩))).set 1 v, ?_, by simpa using h2, ?_⟩, k2, k3, k4⟩
  · rw [Lib.byteCells_append]; exact k1
  · rw [List.getElem?_set_ne (by decide), List.getElem?_set_ne (by decide)]; exact h3
set_option maxHeartbeats 2000000 in
set_option maxRecDepth 100000 in
/-- A text is written, or an error is noted. -/
theorem text_c (B b : Nat) (acc : List UInt8) (bad : Bool) (row : Option Nat) (s : ByteArray) (e : Int) (W : World) (h : Wr B b acc bad row W) (hl : acc.length + s.size ≤ 140737488351232) (hB : B ≤ W.heap.size) :
    Calls Try.prog 48 #[.pointer (some ⟨b, 0, none⟩), .string s, .int .i64 e] W fun en W' => en = .returned (.tuple #[]) ∧ ∃ row', Wr B b (acc ++ s.data.toList) (bad || e != 0) row' W' ∧ (row' = row ∨ ∃ k, row' = some k ∧ W.heap.size ≤ k) ∧ Below B W W' ∧ Kept W W' (fun k => k = b ∨ row = some k) := by
  have c2 := h.cell
  have f2 := h.frozen
  obtain ⟨v, hv⟩ : ∃ v, (bad || e != 0) = v := ⟨_, rfl⟩
  have HV := Lib.hid hv
  have HL := Lib.hid h.le
  have HS := Lib.hid (h.set_ v)
  rw [hv]
  have fin : Calls Try.prog 27 #[.pointer (some ⟨b, 0, none⟩), .string s] (W.setCell ⟨b, 2, none⟩ (.bool v)) fun en W' => en = .returned (.tuple #[.int .i64 s.size, .nilIface]) ∧ ∃ row', Wr B b (acc ++ s.data.toList) v row' W' ∧ (row' = row ∨ ∃ k, row' = some k ∧ W.heap.size ≤ k) ∧ Below B W W' ∧ Kept W W' (fun k => k = b ∨ row = some k) := by
    refine (write_c B b acc v row s _ HS.out (by omega) (by simpa using hB)).mono ?_
    rintro en W1 ⟨rfl, row1, h1, h2, h3, h4⟩
    refine ⟨rfl, row1, h1, by simpa using h2, ((Below.refl B W).setCell (p := ⟨b, 2, none⟩) HL.out _).trans h3, ?_⟩
    exact (Kept.setCell (S := fun k => k = b ∨ row = some k) (p := ⟨b, 2, none⟩) (Kept.refl W _) (.inl (.inl rfl)) _).then_ h4 (fun k hk => .inl hk)
  have HF := Lib.hid fin
  clear h HS fin
  cases bad with
  | true =>
    obtain rfl : true = v := hv
    go_enter Try.func48, Try.ntmps48
    go_wp2_with fail
    refine HF.out.mono ?_
    rintro en W1 ⟨rfl, hx⟩
    have HX := Lib.hid hx
    clear hx
    go_wp2_with fail
    go_end0
    exact ⟨rfl, HX.out⟩
  | false =>
    have he : (e != 0) = v := hv
    clear hv
    go_enter Try.func48, Try.ntmps48
    go_wp2_with fail
    refine HF.out.mono ?_
    rintro en W1 ⟨rfl, hx⟩
    have HX := Lib.hid hx
    clear hx
    go_wp2_with fail
    go_end0
    exact ⟨rfl, HX.out⟩

end Go.Proofs.Ytclikkhkhoicfaa.X
