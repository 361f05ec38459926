/- What each Go function that these laws use answers: as a Lean function, with the proof that the machine's call comes to it. Written by a program of this session (xprint.py). -/
import Derived.Test.YtpackckoblpbfaaXx0
namespace Go.Proofs.Ytpackckoblpbfaa.X
open Go.RowKit Go.Proofs.YtpackckoblpbfaaW.PrintWords Go.Proofs.YtpackckoblpbfaaW.PrintLast Go.Proofs.YtpackckoblpbfaaW.PrintMore
attribute [local go_sem] max2_int min2_int max_two min_two max_three min_three max_four min_four   -- for this text's walks alone
set_option linter.unusedVariables false
set_option linter.unusedSimpArgs false

/-! ### servermsg_writer_check: function 33 -/
/-- A writer in block b: what was written, the error; row: where the bytes lie. -/
def Wr (B b : Nat) (acc : List UInt8) (err : Int) (row : Option Nat) (W : World) : Prop := ∃ cs : List Value, BL.BAt 76 B b 0 cs row (Lib.byteCells acc) W ∧ cs.length = 3 ∧ cs[2]? = some (.int .i64 err)
theorem Wr.cell {B b : Nat} {acc : List UInt8} {err : Int} {row : Option Nat} {W : World} (h : Wr B b acc err row W) : W.cell? ⟨b, 2, none⟩ = some (.int .i64 err) := by
 obtain ⟨cs, h1, _, h3⟩ := h
 rw [blk_cell h1.2.1]; simpa using h3
theorem Wr.frozen {B b : Nat} {acc : List UInt8} {err : Int} {row : Option Nat} {W : World} (h : Wr B b acc err row W) : W.frozen? ⟨b, 2, none⟩ = false := by
 obtain ⟨cs, h1, _, _⟩ := h
 exact blk_frozen h1.2.1 _
theorem Wr.lt {B b : Nat} {acc : List UInt8} {err : Int} {row : Option Nat} {W : World} (h : Wr B b acc err row W) : b < W.heap.size := by obtain ⟨cs, h1, _⟩ := h; exact blk_lt h1.2.1
theorem Wr.le {B b : Nat} {acc : List UInt8} {err : Int} {row : Option Nat} {W : World} (h : Wr B b acc err row W) : B ≤ b := by obtain ⟨cs, h1, _⟩ := h; exact h1.1
theorem Wr.row_ {B b : Nat} {acc : List UInt8} {err : Int} {row : Option Nat} {W : World} (h : Wr B b acc err row W) (k : Nat) (hk : row = some k) : B ≤ k ∧ k < W.heap.size := by
 obtain ⟨cs, ⟨_, _, _, v, _, hown, hrow, _⟩, _⟩ := h
 exact ⟨own_base hown k (hrow.trans hk), own_lt hown k (hrow.trans hk)⟩
theorem Wr.keep {B b : Nat} {acc : List UInt8} {err : Int} {row : Option Nat} {W W1 : World} {S : Nat → Prop} (h : Wr B b acc err row W) (hk : Kept W W1 S) (hb : ¬ S b) (hr : ∀ k, row = some k → ¬ S k) : Wr B b acc err row W1 := by
 obtain ⟨cs, h1, h2, h3⟩ := h
 exact ⟨cs, h1.keep hk hb hr, h2, h3⟩
theorem Wr.below {B b : Nat} {acc : List UInt8} {err : Int} {row : Option Nat} {W W1 : World} (h : Wr B b acc err row W) (hb : Below W.heap.size W W1) : Wr B b acc err row W1 := h.keep (Kept.of_below hb (fun _ => False)) (fun h => h) (fun _ _ h => h)
theorem Wr.new {B b : Nat} {W : World} (h : W.heap[b]? = some (.cells #[.pointer none, .slice none 0 0, .int .i64 0] 76 (0, 0))) (hB : B ≤ b) : Wr B b [] 0 none W :=
 ⟨[.pointer none, .slice none 0 0, .int .i64 0], ⟨hB, h, .inl rfl, .slice none 0 0, rfl, World.ownsRow_nil _ _ _ _, rfl, by simp⟩, rfl, rfl⟩
theorem Wr.set_ {B b : Nat} {acc : List UInt8} {err : Int} {row : Option Nat} {W : World} (h : Wr B b acc err row W) (e : Int) : Wr B b acc e row (W.setCell ⟨b, 2, none⟩ (.int .i64 e)) := by
 obtain ⟨cs, h1, h2, h3⟩ := h
 exact ⟨cs.set 2 (.int .i64 e), h1.put 2 (by decide) (by decide) _ (by decide), by simpa using h2, by rw [List.getElem?_set_self (by omega)]⟩
theorem wr_lies : BL.Lies 76 3 0 := by unfold BL.Lies; kernel_rfl
/-- The first error stays. -/
def errW1 (ok : Bool) (e err : Int) : Int := if ok = false ∧ err = 0 then e else err
set_option maxHeartbeats 1000000 in
set_option maxRecDepth 100000 in
theorem check_c (B b : Nat) (acc : List UInt8) (err : Int) (row : Option Nat) (ok : Bool) (e : Int) (W : World) (h : Wr B b acc err row W) :
  Calls Try.prog 33 #[.pointer (some ⟨b, 0, none⟩), .bool ok, .int .i64 e] W fun en W' => en = .returned (.tuple #[]) ∧ Wr B b acc (errW1 ok e err) row W' ∧ Below B W W' ∧ Kept W W' (fun k => k = b) := by
 have c2 := h.cell
 have f2 := h.frozen
 have HW := Lib.hid h
 cases ok with
 | true =>
  have HE := Lib.hid (show errW1 true e err = err from if_neg (by simp))
  clear h
  go_enter Try.func33, Try.ntmps33
  go_wp2
  go_end0
  exact ⟨rfl, by rw [HE.out]; exact HW.out, Below.refl _ _, Kept.refl _ _⟩
 | false =>
  by_cases he : err = 0
  ·subst he
   have HE := Lib.hid (show errW1 false e 0 = e from if_pos ⟨rfl, rfl⟩)
   have HS := Lib.hid (h.set_ e)
   clear h
   go_enter Try.func33, Try.ntmps33
   go_wp2
   go_end0
   exact ⟨rfl, by rw [HE.out]; exact HS.out, (Below.refl B W).setCell (p := ⟨b, 2, none⟩) HW.out.le _, Kept.setCell (S := fun k => k = b) (p := ⟨b, 2, none⟩) (Kept.refl W _) (.inl rfl) _⟩
  ·have HE := Lib.hid (show errW1 false e err = err from if_neg (fun h => he h.2))
   have hb : (err == 0) = false := by simpa using he
   clear h he
   go_enter Try.func33, Try.ntmps33
   go_wp2
   go_end0
   exact ⟨rfl, by rw [HE.out]; exact HW.out, Below.refl _ _, Kept.refl _ _⟩
/-- A text is written behind. -/
theorem write_c (B b : Nat) (acc : List UInt8) (err : Int) (row : Option Nat) (s : ByteArray) (W : World) (h : Wr B b acc err row W) (hl : acc.length + s.size ≤ 140737488355328) (hB : B ≤ W.heap.size) :
  Calls Try.prog 39 #[.pointer (some ⟨b, 0, none⟩), .string s] W fun en W' => en = .returned (.tuple #[.int .i64 s.size, .nilIface]) ∧ ∃ row', Wr B b (acc ++ s.data.toList) err row' W' ∧ (row' = row ∨ ∃ k, row' = some k ∧ W.heap.size ≤ k) ∧ Below B W W' ∧ Kept W W' (fun k => k = b ∨ row = some k) := by
 obtain ⟨cs, h1, h2, h3⟩ := h
 refine (BL.WriteString_c _ B b 0 cs row _ s W (by decide) (by rw [h2]; exact wr_lies) h1 (by rw [Lib.byteCells_length]; exact hl) hB).mono ?_
 rintro en W' ⟨rfl, v, row', k1, k2, k3, k4⟩
 refine ⟨rfl, row', ⟨(cs.set 0 (.pointer (some ⟨b, 0, none⟩))).set 1 v, ?_, by simpa using h2, ?_⟩, k2, k3, k4⟩
 ·rw [Lib.byteCells_append]; exact k1
 ·rw [List.getElem?_set_ne (by decide), List.getElem?_set_ne (by decide)]; exact h3

end Go.Proofs.Ytpackckoblpbfaa.X
