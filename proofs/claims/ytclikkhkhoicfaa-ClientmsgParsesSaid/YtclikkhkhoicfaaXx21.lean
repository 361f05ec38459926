/- What each Go function that these laws use answers: as a Lean function, with the proof that the machine's call comes to it. Written by a program of this session (xprint.py). -/
import Derived.Test.YtclikkhkhoicfaaXx0
import Derived.Test.YtclikkhkhoicfaaXx3
import Derived.Test.YtclikkhkhoicfaaXx7
import Derived.Test.YtclikkhkhoicfaaXx14
import Derived.Test.YtclikkhkhoicfaaXx15
import Derived.Test.YtclikkhkhoicfaaXx17
import Derived.Test.YtclikkhkhoicfaaXx18
import Derived.Test.YtclikkhkhoicfaaXx19
import Derived.Test.YtclikkhkhoicfaaXx20
namespace Go.Proofs.Ytclikkhkhoicfaa.X
open Go.RowKit Go.Proofs.YtclikkhkhoicfaaW.PrintWords Go.Proofs.YtclikkhkhoicfaaW.PrintLast Go.Proofs.YtclikkhkhoicfaaW.PrintMore
attribute [local go_sem] max2_int min2_int max_two min_two max_three min_three max_four min_four   -- for this text's walks alone
set_option linter.unusedVariables false
set_option linter.unusedSimpArgs false

/-! ### clientmsg_Parse: function 8 -/
abbrev M20 := Int × Bool × Int × Int × Int × Int × Int × Int × Int × Bool × Bool × Int × Int × Int × Int × Int × Int × List Int × ByteArray × Int
/-- What the reader of a kind reads: a message and what is wrong. -/
def readC (n : Int) (q : CS) : Option (M20 × CS) :=
  if n = 0 then (formatC q).map fun p => ((0, false, 0, 0, 0, 0, 0, p.1.1, p.1.2.1, p.1.2.2.1, p.1.2.2.2.1, p.1.2.2.2.2.1, p.1.2.2.2.2.2.1, p.1.2.2.2.2.2.2.1, p.1.2.2.2.2.2.2.2.1, p.1.2.2.2.2.2.2.2.2.1, p.1.2.2.2.2.2.2.2.2.2.1, [], ⟨#[]⟩, p.1.2.2.2.2.2.2.2.2.2.2), p.2)
  else if n = 2 then (encsC q).map fun p => ((1, false, 0, 0, 0, 0, 0, 0, 0, false, false, 0, 0, 0, 0, 0, 0, p.1.1, ⟨#[]⟩, p.1.2), p.2)
  else if n = 3 then (requestC q).map fun p => ((2, p.1.1, 0, p.1.2.1, p.1.2.2.1, p.1.2.2.2.1, p.1.2.2.2.2, 0, 0, false, false, 0, 0, 0, 0, 0, 0, [], ⟨#[]⟩, 0), p.2)
  else if n = 4 then (keyC q).map fun p => ((3, p.1.1, p.1.2, 0, 0, 0, 0, 0, 0, false, false, 0, 0, 0, 0, 0, 0, [], ⟨#[]⟩, 0), p.2)
  else if n = 5 then (pointerC q).map fun p => ((4, false, p.1.1, p.1.2.1, p.1.2.2, 0, 0, 0, 0, false, false, 0, 0, 0, 0, 0, 0, [], ⟨#[]⟩, 0), p.2)
  else if n = 6 then (cutC q).map fun p => (((cutM p.1.1 p.1.2), false, 0, 0, 0, 0, 0, 0, 0, false, false, 0, 0, 0, 0, 0, 0, [], p.1.1, p.1.2), p.2)
  else none
set_option maxHeartbeats 4000000 in
set_option maxRecDepth 100000 in
theorem read_k (w0 : World) (g : Nat) (n : Int) (q : CS) (m0 : Int) (m1 : Bool) (m2 : Int) (m3 : Int) (m4 : Int) (m5 : Int) (m6 : Int) (m7 : Int) (m8 : Int) (m9 : Bool) (m10 : Bool) (m11 : Int) (m12 : Int) (m13 : Int) (m14 : Int) (m15 : Int) (m16 : Int) (m17 : List Int) (m18 : ByteArray) (er : Int) (q' : CS) (W : World) (h : Cu w0 g q W) (hf : readC n q = some ((m0, m1, m2, m3, m4, m5, m6, m7, m8, m9, m10, m11, m12, m13, m14, m15, m16, m17, m18, er), q')) :
    ∃ fn : FuncId, (fn = 34 ∨ fn = 35 ∨ fn = 36 ∨ fn = 37 ∨ fn = 38 ∨ fn = 39) ∧ Calls Try.prog 18 #[.agg #[.pointer (some ⟨g, 0, none⟩)], .int .i64 n] W (fun e W' => e = .returned (.tuple #[.func (.func fn) #[.agg #[.pointer (some ⟨g, 0, none⟩)]] #[], .bool true]) ∧ Below W.heap.size W W') ∧ ∀ W1 : World, Cu w0 g q W1 → Calls Try.prog fn #[.agg #[.pointer (some ⟨g, 0, none⟩)]] W1 fun e W' => ∃ A c, e = .returned (.tuple #[.agg #[.int .i64 m0, .bool m1, .int .i64 m2, .int .i64 m3, .int .i64 m4, .int .i64 m5, .int .i64 m6, .int .i64 m7, .int .i64 m8, .bool m9, .bool m10, .int .i64 m11, .int .i64 m12, .int .i64 m13, .int .i64 m14, .int .i64 m15, .int .i64 m16, .slice A m17.length c, .string m18], .int .i64 er]) ∧ W'.ownsRow W1.heap.size 3 1 (.slice A m17.length c) m17.length (m17.map (Value.int .i64)) ∧ Cu w0 g q' W' ∧ KeptC g W1 W' := by
  unfold readC at hf
  by_cases h0 : n = 0
  · rw [if_pos h0] at hf
    obtain ⟨⟨⟨u0, u1, u2, u3, u4, u5, u6, u7, u8, u9, u10⟩, q2⟩, e1, hf⟩ := Option.map_eq_some_iff.1 hf
    obtain ⟨h9, rfl⟩ := Prod.mk.inj (Option.some.inj (congrArg some hf))
    obtain ⟨rfl, rfl, rfl, rfl, rfl, rfl, rfl, rfl, rfl, rfl, rfl, rfl, rfl, rfl, rfl, rfl, rfl, rfl, rfl, rfl⟩ : (0 : Int) = m0 ∧ (false : Bool) = m1 ∧ (0 : Int) = m2 ∧ (0 : Int) = m3 ∧ (0 : Int) = m4 ∧ (0 : Int) = m5 ∧ (0 : Int) = m6 ∧ (u0 : Int) = m7 ∧ (u1 : Int) = m8 ∧ (u2 : Bool) = m9 ∧ (u3 : Bool) = m10 ∧ (u4 : Int) = m11 ∧ (u5 : Int) = m12 ∧ (u6 : Int) = m13 ∧ (u7 : Int) = m14 ∧ (u8 : Int) = m15 ∧ (u9 : Int) = m16 ∧ ([] : List Int) = m17 ∧ (⟨#[]⟩ : ByteArray) = m18 ∧ (u10 : Int) = er := by simpa using h9
    refine ⟨34, by simp, reading_c g n _ W (by rw [h0]; simp), fun W1 hW1 => ?_⟩
    refine (format_k w0 g q u0 u1 u2 u3 u4 u5 u6 u7 u8 u9 u10 q2 W1 hW1 e1).mono ?_
    rintro e W' ⟨rfl, h2, h3⟩
    exact ⟨none, 0, rfl, World.ownsRow_nil _ _ _ _, h2, h3⟩
  rw [if_neg h0] at hf
  by_cases h2 : n = 2
  · rw [if_pos h2] at hf
    obtain ⟨⟨⟨u0, u1⟩, q2⟩, e1, hf⟩ := Option.map_eq_some_iff.1 hf
    obtain ⟨h9, rfl⟩ := Prod.mk.inj (Option.some.inj (congrArg some hf))
    obtain ⟨rfl, rfl, rfl, rfl, rfl, rfl, rfl, rfl, rfl, rfl, rfl, rfl, rfl, rfl, rfl, rfl, rfl, rfl, rfl, rfl⟩ : (1 : Int) = m0 ∧ (false : Bool) = m1 ∧ (0 : Int) = m2 ∧ (0 : Int) = m3 ∧ (0 : Int) = m4 ∧ (0 : Int) = m5 ∧ (0 : Int) = m6 ∧ (0 : Int) = m7 ∧ (0 : Int) = m8 ∧ (false : Bool) = m9 ∧ (false : Bool) = m10 ∧ (0 : Int) = m11 ∧ (0 : Int) = m12 ∧ (0 : Int) = m13 ∧ (0 : Int) = m14 ∧ (0 : Int) = m15 ∧ (0 : Int) = m16 ∧ (u0 : List Int) = m17 ∧ (⟨#[]⟩ : ByteArray) = m18 ∧ (u1 : Int) = er := by simpa using h9
    refine ⟨35, by simp, reading_c g n _ W (by rw [h2]; simp), fun W1 hW1 => ?_⟩
    refine (encs_k w0 g q u0 u1 q2 W1 hW1 e1).mono ?_
    rintro e W' ⟨A, c, rfl, h1, h2, h3⟩
    exact ⟨A, c, rfl, own_above h1 (by omega), h2, h3⟩
  rw [if_neg h2] at hf
  by_cases h3 : n = 3
  · rw [if_pos h3] at hf
    obtain ⟨⟨⟨u0, u1, u2, u3, u4⟩, q2⟩, e1, hf⟩ := Option.map_eq_some_iff.1 hf
    obtain ⟨h9, rfl⟩ := Prod.mk.inj (Option.some.inj (congrArg some hf))
    obtain ⟨rfl, rfl, rfl, rfl, rfl, rfl, rfl, rfl, rfl, rfl, rfl, rfl, rfl, rfl, rfl, rfl, rfl, rfl, rfl, rfl⟩ : (2 : Int) = m0 ∧ (u0 : Bool) = m1 ∧ (0 : Int) = m2 ∧ (u1 : Int) = m3 ∧ (u2 : Int) = m4 ∧ (u3 : Int) = m5 ∧ (u4 : Int) = m6 ∧ (0 : Int) = m7 ∧ (0 : Int) = m8 ∧ (false : Bool) = m9 ∧ (false : Bool) = m10 ∧ (0 : Int) = m11 ∧ (0 : Int) = m12 ∧ (0 : Int) = m13 ∧ (0 : Int) = m14 ∧ (0 : Int) = m15 ∧ (0 : Int) = m16 ∧ ([] : List Int) = m17 ∧ (⟨#[]⟩ : ByteArray) = m18 ∧ (0 : Int) = er := by simpa using h9
    refine ⟨36, by simp, reading_c g n _ W (by rw [h3]; simp), fun W1 hW1 => ?_⟩
    refine (request_k w0 g q u0 u1 u2 u3 u4 q2 W1 hW1 e1).mono ?_
    rintro e W' ⟨rfl, h2, h3⟩
    exact ⟨none, 0, rfl, World.ownsRow_nil _ _ _ _, h2, h3⟩
  rw [if_neg h3] at hf
  by_cases h4 : n = 4
  · rw [if_pos h4] at hf
    obtain ⟨⟨⟨u0, u1⟩, q2⟩, e1, hf⟩ := Option.map_eq_some_iff.1 hf
    obtain ⟨h9, rfl⟩ := Prod.mk.inj (Option.some.inj (congrArg some hf))
    obtain ⟨rfl, rfl, rfl, rfl, rfl, rfl, rfl, rfl, rfl, rfl, rfl, rfl, rfl, rfl, rfl, rfl, rfl, rfl, rfl, rfl⟩ : (3 : Int) = m0 ∧ (u0 : Bool) = m1 ∧ (u1 : Int) = m2 ∧ (0 : Int) = m3 ∧ (0 : Int) = m4 ∧ (0 : Int) = m5 ∧ (0 : Int) = m6 ∧ (0 : Int) = m7 ∧ (0 : Int) = m8 ∧ (false : Bool) = m9 ∧ (false : Bool) = m10 ∧ (0 : Int) = m11 ∧ (0 : Int) = m12 ∧ (0 : Int) = m13 ∧ (0 : Int) = m14 ∧ (0 : Int) = m15 ∧ (0 : Int) = m16 ∧ ([] : List Int) = m17 ∧ (⟨#[]⟩ : ByteArray) = m18 ∧ (0 : Int) = er := by simpa using h9
    refine ⟨37, by simp, reading_c g n _ W (by rw [h4]; simp), fun W1 hW1 => ?_⟩
    refine (key_k w0 g q u0 u1 q2 W1 hW1 e1).mono ?_
    rintro e W' ⟨rfl, h2, h3⟩
    exact ⟨none, 0, rfl, World.ownsRow_nil _ _ _ _, h2, h3⟩
  rw [if_neg h4] at hf
  by_cases h5 : n = 5
  · rw [if_pos h5] at hf
    obtain ⟨⟨⟨u0, u1, u2⟩, q2⟩, e1, hf⟩ := Option.map_eq_some_iff.1 hf
    obtain ⟨h9, rfl⟩ := Prod.mk.inj (Option.some.inj (congrArg some hf))
    obtain ⟨rfl, rfl, rfl, rfl, rfl, rfl, rfl, rfl, rfl, rfl, rfl, rfl, rfl, rfl, rfl, rfl, rfl, rfl, rfl, rfl⟩ : (4 : Int) = m0 ∧ (false : Bool) = m1 ∧ (u0 : Int) = m2 ∧ (u1 : Int) = m3 ∧ (u2 : Int) = m4 ∧ (0 : Int) = m5 ∧ (0 : Int) = m6 ∧ (0 : Int) = m7 ∧ (0 : Int) = m8 ∧ (false : Bool) = m9 ∧ (false : Bool) = m10 ∧ (0 : Int) = m11 ∧ (0 : Int) = m12 ∧ (0 : Int) = m13 ∧ (0 : Int) = m14 ∧ (0 : Int) = m15 ∧ (0 : Int) = m16 ∧ ([] : List Int) = m17 ∧ (⟨#[]⟩ : ByteArray) = m18 ∧ (0 : Int) = er := by simpa using h9
    refine ⟨38, by simp, reading_c g n _ W (by rw [h5]; simp), fun W1 hW1 => ?_⟩
    refine (pointer_k w0 g q u0 u1 u2 q2 W1 hW1 e1).mono ?_
    rintro e W' ⟨rfl, h2, h3⟩
    exact ⟨none, 0, rfl, World.ownsRow_nil _ _ _ _, h2, h3⟩
  rw [if_neg h5] at hf
  by_cases h6 : n = 6
  · rw [if_pos h6] at hf
    obtain ⟨⟨⟨u0, u1⟩, q2⟩, e1, hf⟩ := Option.map_eq_some_iff.1 hf
    obtain ⟨h9, rfl⟩ := Prod.mk.inj (Option.some.inj (congrArg some hf))
    obtain ⟨rfl, rfl, rfl, rfl, rfl, rfl, rfl, rfl, rfl, rfl, rfl, rfl, rfl, rfl, rfl, rfl, rfl, rfl, rfl, rfl⟩ : ((cutM u0 u1) : Int) = m0 ∧ (false : Bool) = m1 ∧ (0 : Int) = m2 ∧ (0 : Int) = m3 ∧ (0 : Int) = m4 ∧ (0 : Int) = m5 ∧ (0 : Int) = m6 ∧ (0 : Int) = m7 ∧ (0 : Int) = m8 ∧ (false : Bool) = m9 ∧ (false : Bool) = m10 ∧ (0 : Int) = m11 ∧ (0 : Int) = m12 ∧ (0 : Int) = m13 ∧ (0 : Int) = m14 ∧ (0 : Int) = m15 ∧ (0 : Int) = m16 ∧ ([] : List Int) = m17 ∧ (u0 : ByteArray) = m18 ∧ (u1 : Int) = er := by simpa using h9
    refine ⟨39, by simp, reading_c g n _ W (by rw [h6]; simp), fun W1 hW1 => ?_⟩
    refine (cut_k w0 g q u0 u1 q2 W1 hW1 e1).mono ?_
    rintro e W' ⟨rfl, h2, h3⟩
    exact ⟨none, 0, rfl, World.ownsRow_nil _ _ _ _, h2, h3⟩
  rw [if_neg h6] at hf
  cases hf
def clientmsg_Parse.f (a0 : ByteArray) : Option (Int × Bool × Int × Int × Int × Int × Int × Int × Int × Bool × Bool × Int × Int × Int × Int × Int × Int × List Int × ByteArray × Int × Int) := (intC ⟨a0, 0, 0⟩ 1).bind fun a => if a.2.ce = 0 then if a.1 = 0 ∨ a.1 = 2 ∨ a.1 = 3 ∨ a.1 = 4 ∨ a.1 = 5 ∨ a.1 = 6 then (readC a.1 a.2).bind fun p => if p.1.2.2.2.2.2.2.2.2.2.2.2.2.2.2.2.2.2.2.2 = 0 then if p.2.ce = 0 then some (p.1.1, p.1.2.1, p.1.2.2.1, p.1.2.2.2.1, p.1.2.2.2.2.1, p.1.2.2.2.2.2.1, p.1.2.2.2.2.2.2.1, p.1.2.2.2.2.2.2.2.1, p.1.2.2.2.2.2.2.2.2.1, p.1.2.2.2.2.2.2.2.2.2.1, p.1.2.2.2.2.2.2.2.2.2.2.1, p.1.2.2.2.2.2.2.2.2.2.2.2.1, p.1.2.2.2.2.2.2.2.2.2.2.2.2.1, p.1.2.2.2.2.2.2.2.2.2.2.2.2.2.1, p.1.2.2.2.2.2.2.2.2.2.2.2.2.2.2.1, p.1.2.2.2.2.2.2.2.2.2.2.2.2.2.2.2.1, p.1.2.2.2.2.2.2.2.2.2.2.2.2.2.2.2.2.1, p.1.2.2.2.2.2.2.2.2.2.2.2.2.2.2.2.2.2.1, p.1.2.2.2.2.2.2.2.2.2.2.2.2.2.2.2.2.2.2.1, p.2.at_, 0) else some (0, false, 0, 0, 0, 0, 0, 0, 0, false, false, 0, 0, 0, 0, 0, 0, [], ⟨#[]⟩, 0, p.2.ce) else some (0, false, 0, 0, 0, 0, 0, 0, 0, false, false, 0, 0, 0, 0, 0, 0, [], ⟨#[]⟩, 0, p.1.2.2.2.2.2.2.2.2.2.2.2.2.2.2.2.2.2.2.2) else some (0, false, 0, 0, 0, 0, 0, 0, 0, false, false, 0, 0, 0, 0, 0, 0, [], ⟨#[]⟩, 0, 222) else some (0, false, 0, 0, 0, 0, 0, 0, 0, false, false, 0, 0, 0, 0, 0, 0, [], ⟨#[]⟩, 0, a.2.ce)
theorem own_row_new {W : World} {base : Nat} {e : TypeId} {size n : Nat} {v : Value} {xs : List Value} (h : W.ownsRow base e size v n xs) (o : Obj) (cs : Array Value) : ((W.alloc o).setRow W.heap.size cs).ownsRow base e size v n xs :=
  ⟨h.1, h.2.imp id (fun ⟨g, cap, cur, e1, e2, e3, e4⟩ => ⟨g, cap, cur, e1, e2, ((setRow_other (W.alloc o) W.heap.size g cs (Nat.ne_of_lt (blk_lt e3))).trans (Below.heap_alloc _ _ _ (blk_lt e3))).trans e3, e4⟩)⟩
theorem own_row_low {W : World} {base k : Nat} {e : TypeId} {size n : Nat} {v : Value} {xs : List Value} (h : W.ownsRow base e size v n xs) (hk : k < base) (cs : Array Value) : (W.setRow k cs).ownsRow base e size v n xs :=
  ⟨h.1, h.2.imp id (fun ⟨g, cap, cur, e1, e2, e3, e4⟩ => ⟨g, cap, cur, e1, e2, (setRow_other W k g cs (by omega)).trans e3, e4⟩)⟩
section
attribute [local go_sem ↓] exec_store_msg exec_load_msg
attribute [local go_sem] store_msg load_msg
set_option maxHeartbeats 4000000 in
set_option maxRecDepth 100000 in
theorem clientmsg_Parse_short (a0 : ByteArray) (n : Int) (q1 : CS) (hc : q1.ce ≠ 0) (w : World) (E0 : Hid (intC ⟨a0, 0, 0⟩ 1 = some (n, q1))) :
    Calls Try.prog 8 #[.string a0] w fun e w' => ∃ v0_ : Value, e = .returned (.tuple #[.agg #[.int .i64 0, .bool false, .int .i64 0, .int .i64 0, .int .i64 0, .int .i64 0, .int .i64 0, .int .i64 0, .int .i64 0, .bool false, .bool false, .int .i64 0, .int .i64 0, .int .i64 0, .int .i64 0, .int .i64 0, .int .i64 0, v0_, .string ⟨#[]⟩], .int .i64 0, .int .i64 q1.ce]) ∧ Kd.R (Kd.int .i64) 3 w' w.heap.size (fun _ => True) v0_ [] ∧ Below w.heap.size w w' := by
  have d1 : (q1.ce != 0) = true := by simpa using hc
  clear hc
  obtain ⟨Wa, hWa⟩ : ∃ X, w.alloc (.cells #[.int .i64 0, .bool false, .int .i64 0, .int .i64 0, .int .i64 0, .int .i64 0, .int .i64 0, .int .i64 0, .int .i64 0, .bool false, .bool false, .int .i64 0, .int .i64 0, .int .i64 0, .int .i64 0, .int .i64 0, .int .i64 0, .slice none 0 0, .string ⟨#[]⟩] 30) = X := ⟨_, rfl⟩
  have HYa := Lib.hid (show Wa.heap[w.heap.size]? = some (.cells #[.int .i64 0, .bool false, .int .i64 0, .int .i64 0, .int .i64 0, .int .i64 0, .int .i64 0, .int .i64 0, .int .i64 0, .bool false, .bool false, .int .i64 0, .int .i64 0, .int .i64 0, .int .i64 0, .int .i64 0, .int .i64 0, .slice none 0 0, .string ⟨#[]⟩] 30 (0, 0)) from by rw [← hWa]; exact heap_alloc_new w (.cells #[.int .i64 0, .bool false, .int .i64 0, .int .i64 0, .int .i64 0, .int .i64 0, .int .i64 0, .int .i64 0, .int .i64 0, .bool false, .bool false, .int .i64 0, .int .i64 0, .int .i64 0, .int .i64 0, .int .i64 0, .int .i64 0, .slice none 0 0, .string ⟨#[]⟩] 30))
  have HBa := Lib.hid (show Below w.heap.size w Wa from by rw [← hWa]; exact below_alloc (Below.refl _ _) _)
  go_enter Try.func8, Try.ntmps8
  go_wp2_with fail
  try rw [hWa]
  clear hWa
  refine (octets_New.calls a0 a0 0 0 w Wa HBa.out rfl).mono ?_
  rintro en w1 ⟨g, rfl, hi, hb, hb2⟩
  have HY1 := Lib.hid (blk_below HYa.out hb2)
  have hg1 : w.heap.size ≠ g := fun e => by have h1 := HY1.out; rw [e, hi.1] at h1; simp at h1
  have hrb : w.heap.size < w1.heap.size := blk_lt HY1.out
  have hgl : g < w1.heap.size := blk_lt hi.1
  obtain ⟨W1, hW1⟩ : ∃ X, w1.alloc (.cells #[.pointer (some ⟨g, 0, none⟩)] 48) = X := ⟨_, rfl⟩
  have hb3 := below_alloc (Below.refl w1.heap.size w1) (.cells #[.pointer (some ⟨g, 0, none⟩)] 48)
  rw [hW1] at hb3
  have HC1 := Lib.hid (show Cu w g ⟨a0, 0, 0⟩ W1 from Cu.below (W := w1) ⟨hi, hb⟩ hb3)
  have HX1 := Lib.hid (show W1.heap[w1.heap.size]? = some (.cells #[.pointer (some ⟨g, 0, none⟩)] 48 (0, 0)) from by rw [← hW1]; exact heap_alloc_new w1 _)
  have HY2 := Lib.hid (show W1.heap[w.heap.size]? = some (.cells #[.int .i64 0, .bool false, .int .i64 0, .int .i64 0, .int .i64 0, .int .i64 0, .int .i64 0, .int .i64 0, .int .i64 0, .bool false, .bool false, .int .i64 0, .int .i64 0, .int .i64 0, .int .i64 0, .int .i64 0, .int .i64 0, .slice none 0 0, .string ⟨#[]⟩] 30 (0, 0)) from blk_below HY1.out hb3)
  clear hi hb hb2 hb3
  go_upto_region 2 with (fail)
  try rw [hW1]
  clear hW1
  obtain ⟨rb, hrbe⟩ : ∃ x, w1.heap.size = x := ⟨_, rfl⟩
  rw [hrbe] at HX1 hrb hgl ⊢
  clear hrbe HY1 HYa HBa
  have nrb : rb ≠ g := by omega
  have nbr : w.heap.size ≠ rb := by omega
  have y0 : W1.cell? ⟨rb, 0, none⟩ = some (.pointer (some ⟨g, 0, none⟩)) := (blk_cell HX1.out 0).trans rfl
  go_wp2_with fail
  refine (int_k w g ⟨a0, 0, 0⟩ 1 n q1 W1 HC1.out E0.out).mono ?_
  rintro en W2 ⟨rfl, h1, hk⟩
  have HC2 := Lib.hid h1
  have HX2 := Lib.hid (hk.blk HX1.out nrb)
  have HY3 := Lib.hid (hk.blk HY2.out hg1)
  clear h1 hk y0 HC1 HX1 HY2
  have y0 : W2.cell? ⟨rb, 0, none⟩ = some (.pointer (some ⟨g, 0, none⟩)) := (blk_cell HX2.out 0).trans rfl
  have HG0 := Lib.hid (Nat.le_refl w.heap.size)
  go_wp2_with fail
  refine (err_k w g q1 W2 HC2.out).mono ?_
  rintro en W3 ⟨rfl, hw⟩
  rw [hw]
  clear hw
  clear y0
  have hst : rowAt W2 w.heap.size 30 19 = true := rowAt_of HY3.out rfl
  have HZ := Lib.hid (setRow_heap W2 w.heap.size _ #[.int .i64 0, .bool false, .int .i64 0, .int .i64 0, .int .i64 0, .int .i64 0, .int .i64 0, .int .i64 0, .int .i64 0, .bool false, .bool false, .int .i64 0, .int .i64 0, .int .i64 0, .int .i64 0, .int .i64 0, .int .i64 0, .slice none 0 0, .string ⟨#[]⟩] _ _ HY3.out)
  have HCz := Lib.hid (Cu.row HC2.out hg1 HG0.out #[.int .i64 0, .bool false, .int .i64 0, .int .i64 0, .int .i64 0, .int .i64 0, .int .i64 0, .int .i64 0, .int .i64 0, .bool false, .bool false, .int .i64 0, .int .i64 0, .int .i64 0, .int .i64 0, .int .i64 0, .int .i64 0, .slice none 0 0, .string ⟨#[]⟩])
  go_wp2_with fail
  refine bodyPost_ret (results_ctt rfl _ _ w.heap.size 30 #[.int .i64 0, .bool false, .int .i64 0, .int .i64 0, .int .i64 0, .int .i64 0, .int .i64 0, .int .i64 0, .int .i64 0, .bool false, .bool false, .int .i64 0, .int .i64 0, .int .i64 0, .int .i64 0, .int .i64 0, .int .i64 0, .slice none 0 0, .string ⟨#[]⟩] (0, 0) _ rfl (by with_reducible exact HZ.out) Try.underlying30 rfl (by kernel_rfl)) rfl ?_
  exact ⟨_, rfl, Kd.R_of_own (enc := Value.int .i64) (World.ownsRow_nil _ _ _ _) (fun _ _ => trivial), HCz.out.low⟩
set_option maxHeartbeats 4000000 in
set_option maxRecDepth 100000 in
theorem clientmsg_Parse_none (a0 : ByteArray) (n : Int) (q1 : CS) (hc : q1.ce = 0) (k0 : n ≠ 0) (k2 : n ≠ 2) (k3 : n ≠ 3) (k4 : n ≠ 4) (k5 : n ≠ 5) (k6 : n ≠ 6) (w : World) (E0 : Hid (intC ⟨a0, 0, 0⟩ 1 = some (n, q1))) :
    Calls Try.prog 8 #[.string a0] w fun e w' => ∃ v0_ : Value, e = .returned (.tuple #[.agg #[.int .i64 0, .bool false, .int .i64 0, .int .i64 0, .int .i64 0, .int .i64 0, .int .i64 0, .int .i64 0, .int .i64 0, .bool false, .bool false, .int .i64 0, .int .i64 0, .int .i64 0, .int .i64 0, .int .i64 0, .int .i64 0, v0_, .string ⟨#[]⟩], .int .i64 0, .int .i64 222]) ∧ Kd.R (Kd.int .i64) 3 w' w.heap.size (fun _ => True) v0_ [] ∧ Below w.heap.size w w' := by
  have d1 : (q1.ce != 0) = false := by simpa using hc
  clear hc
  have K := Lib.hid (And.intro k0 (And.intro k2 (And.intro k3 (And.intro k4 (And.intro k5 k6)))))
  clear k0 k2 k3 k4 k5 k6
  obtain ⟨Wa, hWa⟩ : ∃ X, w.alloc (.cells #[.int .i64 0, .bool false, .int .i64 0, .int .i64 0, .int .i64 0, .int .i64 0, .int .i64 0, .int .i64 0, .int .i64 0, .bool false, .bool false, .int .i64 0, .int .i64 0, .int .i64 0, .int .i64 0, .int .i64 0, .int .i64 0, .slice none 0 0, .string ⟨#[]⟩] 30) = X := ⟨_, rfl⟩
  have HYa := Lib.hid (show Wa.heap[w.heap.size]? = some (.cells #[.int .i64 0, .bool false, .int .i64 0, .int .i64 0, .int .i64 0, .int .i64 0, .int .i64 0, .int .i64 0, .int .i64 0, .bool false, .bool false, .int .i64 0, .int .i64 0, .int .i64 0, .int .i64 0, .int .i64 0, .int .i64 0, .slice none 0 0, .string ⟨#[]⟩] 30 (0, 0)) from by rw [← hWa]; exact heap_alloc_new w (.cells #[.int .i64 0, .bool false, .int .i64 0, .int .i64 0, .int .i64 0, .int .i64 0, .int .i64 0, .int .i64 0, .int .i64 0, .bool false, .bool false, .int .i64 0, .int .i64 0, .int .i64 0, .int .i64 0, .int .i64 0, .int .i64 0, .slice none 0 0, .string ⟨#[]⟩] 30))
  have HBa := Lib.hid (show Below w.heap.size w Wa from by rw [← hWa]; exact below_alloc (Below.refl _ _) _)
  go_enter Try.func8, Try.ntmps8
  go_wp2_with fail
  try rw [hWa]
  clear hWa
  refine (octets_New.calls a0 a0 0 0 w Wa HBa.out rfl).mono ?_
  rintro en w1 ⟨g, rfl, hi, hb, hb2⟩
  have HY1 := Lib.hid (blk_below HYa.out hb2)
  have hg1 : w.heap.size ≠ g := fun e => by have h1 := HY1.out; rw [e, hi.1] at h1; simp at h1
  have hrb : w.heap.size < w1.heap.size := blk_lt HY1.out
  have hgl : g < w1.heap.size := blk_lt hi.1
  obtain ⟨W1, hW1⟩ : ∃ X, w1.alloc (.cells #[.pointer (some ⟨g, 0, none⟩)] 48) = X := ⟨_, rfl⟩
  have hb3 := below_alloc (Below.refl w1.heap.size w1) (.cells #[.pointer (some ⟨g, 0, none⟩)] 48)
  rw [hW1] at hb3
  have HC1 := Lib.hid (show Cu w g ⟨a0, 0, 0⟩ W1 from Cu.below (W := w1) ⟨hi, hb⟩ hb3)
  have HX1 := Lib.hid (show W1.heap[w1.heap.size]? = some (.cells #[.pointer (some ⟨g, 0, none⟩)] 48 (0, 0)) from by rw [← hW1]; exact heap_alloc_new w1 _)
  have HY2 := Lib.hid (show W1.heap[w.heap.size]? = some (.cells #[.int .i64 0, .bool false, .int .i64 0, .int .i64 0, .int .i64 0, .int .i64 0, .int .i64 0, .int .i64 0, .int .i64 0, .bool false, .bool false, .int .i64 0, .int .i64 0, .int .i64 0, .int .i64 0, .int .i64 0, .int .i64 0, .slice none 0 0, .string ⟨#[]⟩] 30 (0, 0)) from blk_below HY1.out hb3)
  clear hi hb hb2 hb3
  go_upto_region 2 with (fail)
  try rw [hW1]
  clear hW1
  obtain ⟨rb, hrbe⟩ : ∃ x, w1.heap.size = x := ⟨_, rfl⟩
  rw [hrbe] at HX1 hrb hgl ⊢
  clear hrbe HY1 HYa HBa
  have nrb : rb ≠ g := by omega
  have nbr : w.heap.size ≠ rb := by omega
  have y0 : W1.cell? ⟨rb, 0, none⟩ = some (.pointer (some ⟨g, 0, none⟩)) := (blk_cell HX1.out 0).trans rfl
  go_wp2_with fail
  refine (int_k w g ⟨a0, 0, 0⟩ 1 n q1 W1 HC1.out E0.out).mono ?_
  rintro en W2 ⟨rfl, h1, hk⟩
  have HC2 := Lib.hid h1
  have HX2 := Lib.hid (hk.blk HX1.out nrb)
  have HY3 := Lib.hid (hk.blk HY2.out hg1)
  clear h1 hk y0 HC1 HX1 HY2
  have y0 : W2.cell? ⟨rb, 0, none⟩ = some (.pointer (some ⟨g, 0, none⟩)) := (blk_cell HX2.out 0).trans rfl
  have HG0 := Lib.hid (Nat.le_refl w.heap.size)
  go_wp2_with fail
  refine (err_k w g q1 W2 HC2.out).mono ?_
  rintro en W3 ⟨rfl, hw⟩
  rw [hw]
  clear hw
  go_wp2_with fail
  refine (reading_no g n W2 K.out.1 K.out.2.1 K.out.2.2.1 K.out.2.2.2.1 K.out.2.2.2.2.1 K.out.2.2.2.2.2).mono ?_
  rintro en W3 ⟨rfl, hb⟩
  have HY4 := Lib.hid (blk_below HY3.out hb)
  have HC3 := Lib.hid (HC2.out.below hb)
  clear hb y0
  have hst : rowAt W3 w.heap.size 30 19 = true := rowAt_of HY4.out rfl
  have HZ := Lib.hid (setRow_heap W3 w.heap.size _ #[.int .i64 0, .bool false, .int .i64 0, .int .i64 0, .int .i64 0, .int .i64 0, .int .i64 0, .int .i64 0, .int .i64 0, .bool false, .bool false, .int .i64 0, .int .i64 0, .int .i64 0, .int .i64 0, .int .i64 0, .int .i64 0, .slice none 0 0, .string ⟨#[]⟩] _ _ HY4.out)
  have HCz := Lib.hid (Cu.row HC3.out hg1 HG0.out #[.int .i64 0, .bool false, .int .i64 0, .int .i64 0, .int .i64 0, .int .i64 0, .int .i64 0, .int .i64 0, .int .i64 0, .bool false, .bool false, .int .i64 0, .int .i64 0, .int .i64 0, .int .i64 0, .int .i64 0, .int .i64 0, .slice none 0 0, .string ⟨#[]⟩])
  go_wp2_with fail
  refine bodyPost_ret (results_ctt rfl _ _ w.heap.size 30 #[.int .i64 0, .bool false, .int .i64 0, .int .i64 0, .int .i64 0, .int .i64 0, .int .i64 0, .int .i64 0, .int .i64 0, .bool false, .bool false, .int .i64 0, .int .i64 0, .int .i64 0, .int .i64 0, .int .i64 0, .int .i64 0, .slice none 0 0, .string ⟨#[]⟩] (0, 0) _ rfl (by with_reducible exact HZ.out) Try.underlying30 rfl (by kernel_rfl)) rfl ?_
  exact ⟨_, rfl, Kd.R_of_own (enc := Value.int .i64) (World.ownsRow_nil _ _ _ _) (fun _ _ => trivial), HCz.out.low⟩
set_option maxHeartbeats 4000000 in
set_option maxRecDepth 100000 in
theorem clientmsg_Parse_wrong (a0 : ByteArray) (n : Int) (q1 : CS) (m0 : Int) (m1 : Bool) (m2 : Int) (m3 : Int) (m4 : Int) (m5 : Int) (m6 : Int) (m7 : Int) (m8 : Int) (m9 : Bool) (m10 : Bool) (m11 : Int) (m12 : Int) (m13 : Int) (m14 : Int) (m15 : Int) (m16 : Int) (m17 : List Int) (m18 : ByteArray) (er : Int) (q2 : CS) (hc : q1.ce = 0) (hr : readC n q1 = some ((m0, m1, m2, m3, m4, m5, m6, m7, m8, m9, m10, m11, m12, m13, m14, m15, m16, m17, m18, er), q2)) (he : er ≠ 0) (w : World) (E0 : Hid (intC ⟨a0, 0, 0⟩ 1 = some (n, q1))) :
    Calls Try.prog 8 #[.string a0] w fun e w' => ∃ v0_ : Value, e = .returned (.tuple #[.agg #[.int .i64 0, .bool false, .int .i64 0, .int .i64 0, .int .i64 0, .int .i64 0, .int .i64 0, .int .i64 0, .int .i64 0, .bool false, .bool false, .int .i64 0, .int .i64 0, .int .i64 0, .int .i64 0, .int .i64 0, .int .i64 0, v0_, .string ⟨#[]⟩], .int .i64 0, .int .i64 er]) ∧ Kd.R (Kd.int .i64) 3 w' w.heap.size (fun _ => True) v0_ [] ∧ Below w.heap.size w w' := by
  have d1 : (q1.ce != 0) = false := by simpa using hc
  have HR := Lib.hid hr
  clear hc hr
  have d2 : (er == 0) = false := by simpa using he
  have d3 : (er != 0) = true := by simpa using he
  clear he
  obtain ⟨Wa, hWa⟩ : ∃ X, w.alloc (.cells #[.int .i64 0, .bool false, .int .i64 0, .int .i64 0, .int .i64 0, .int .i64 0, .int .i64 0, .int .i64 0, .int .i64 0, .bool false, .bool false, .int .i64 0, .int .i64 0, .int .i64 0, .int .i64 0, .int .i64 0, .int .i64 0, .slice none 0 0, .string ⟨#[]⟩] 30) = X := ⟨_, rfl⟩
  have HYa := Lib.hid (show Wa.heap[w.heap.size]? = some (.cells #[.int .i64 0, .bool false, .int .i64 0, .int .i64 0, .int .i64 0, .int .i64 0, .int .i64 0, .int .i64 0, .int .i64 0, .bool false, .bool false, .int .i64 0, .int .i64 0, .int .i64 0, .int .i64 0, .int .i64 0, .int .i64 0, .slice none 0 0, .string ⟨#[]⟩] 30 (0, 0)) from by rw [← hWa]; exact heap_alloc_new w (.cells #[.int .i64 0, .bool false, .int .i64 0, .int .i64 0, .int .i64 0, .int .i64 0, .int .i64 0, .int .i64 0, .int .i64 0, .bool false, .bool false, .int .i64 0, .int .i64 0, .int .i64 0, .int .i64 0, .int .i64 0, .int .i64 0, .slice none 0 0, .string ⟨#[]⟩] 30))
  have HBa := Lib.hid (show Below w.heap.size w Wa from by rw [← hWa]; exact below_alloc (Below.refl _ _) _)
  go_enter Try.func8, Try.ntmps8
  go_wp2_with fail
  try rw [hWa]
  clear hWa
  refine (octets_New.calls a0 a0 0 0 w Wa HBa.out rfl).mono ?_
  rintro en w1 ⟨g, rfl, hi, hb, hb2⟩
  have HY1 := Lib.hid (blk_below HYa.out hb2)
  have hg1 : w.heap.size ≠ g := fun e => by have h1 := HY1.out; rw [e, hi.1] at h1; simp at h1
  have hrb : w.heap.size < w1.heap.size := blk_lt HY1.out
  have hgl : g < w1.heap.size := blk_lt hi.1
  obtain ⟨W1, hW1⟩ : ∃ X, w1.alloc (.cells #[.pointer (some ⟨g, 0, none⟩)] 48) = X := ⟨_, rfl⟩
  have hb3 := below_alloc (Below.refl w1.heap.size w1) (.cells #[.pointer (some ⟨g, 0, none⟩)] 48)
  rw [hW1] at hb3
  have HC1 := Lib.hid (show Cu w g ⟨a0, 0, 0⟩ W1 from Cu.below (W := w1) ⟨hi, hb⟩ hb3)
  have HX1 := Lib.hid (show W1.heap[w1.heap.size]? = some (.cells #[.pointer (some ⟨g, 0, none⟩)] 48 (0, 0)) from by rw [← hW1]; exact heap_alloc_new w1 _)
  have HY2 := Lib.hid (show W1.heap[w.heap.size]? = some (.cells #[.int .i64 0, .bool false, .int .i64 0, .int .i64 0, .int .i64 0, .int .i64 0, .int .i64 0, .int .i64 0, .int .i64 0, .bool false, .bool false, .int .i64 0, .int .i64 0, .int .i64 0, .int .i64 0, .int .i64 0, .int .i64 0, .slice none 0 0, .string ⟨#[]⟩] 30 (0, 0)) from blk_below HY1.out hb3)
  clear hi hb hb2 hb3
  go_upto_region 2 with (fail)
  try rw [hW1]
  clear hW1
  obtain ⟨rb, hrbe⟩ : ∃ x, w1.heap.size = x := ⟨_, rfl⟩
  rw [hrbe] at HX1 hrb hgl ⊢
  clear hrbe HY1 HYa HBa
  have nrb : rb ≠ g := by omega
  have nbr : w.heap.size ≠ rb := by omega
  have y0 : W1.cell? ⟨rb, 0, none⟩ = some (.pointer (some ⟨g, 0, none⟩)) := (blk_cell HX1.out 0).trans rfl
  go_wp2_with fail
  refine (int_k w g ⟨a0, 0, 0⟩ 1 n q1 W1 HC1.out E0.out).mono ?_
  rintro en W2 ⟨rfl, h1, hk⟩
  have HC2 := Lib.hid h1
  have HX2 := Lib.hid (hk.blk HX1.out nrb)
  have HY3 := Lib.hid (hk.blk HY2.out hg1)
  clear h1 hk y0 HC1 HX1 HY2
  have y0 : W2.cell? ⟨rb, 0, none⟩ = some (.pointer (some ⟨g, 0, none⟩)) := (blk_cell HX2.out 0).trans rfl
  have HG0 := Lib.hid (Nat.le_refl w.heap.size)
  go_wp2_with fail
  refine (err_k w g q1 W2 HC2.out).mono ?_
  rintro en W3 ⟨rfl, hw⟩
  rw [hw]
  clear hw
  go_wp2_with fail
  obtain ⟨fn, hfs, hfn, hcl⟩ := read_k w g n q1 m0 m1 m2 m3 m4 m5 m6 m7 m8 m9 m10 m11 m12 m13 m14 m15 m16 m17 m18 er q2 W2 HC2.out HR.out
  have HCL := Lib.hid hcl
  have HFS := Lib.hid hfs
  refine hfn.mono ?_
  clear hcl hfn hfs
  rintro en W3 ⟨rfl, hb⟩
  have HX3 := Lib.hid (blk_below HX2.out hb)
  have HY4 := Lib.hid (blk_below HY3.out hb)
  have HC3 := Lib.hid (HC2.out.below hb)
  have hs3 := hb.size
  have hrb2 := blk_lt HX2.out
  clear hb y0
  have y0 : W3.cell? ⟨rb, 0, none⟩ = some (.pointer (some ⟨g, 0, none⟩)) := (blk_cell HX3.out 0).trans rfl
  rcases HFS.out with rfl | rfl | rfl | rfl | rfl | rfl
  all_goals
    clear HFS
    go_wp2_with fail
    refine (HCL.out W3 HC3.out).mono ?_
    rintro en W4 ⟨A, c, rfl, ho, h1, hk⟩
    have HC4 := Lib.hid h1
    have HX4 := Lib.hid (hk.blk HX3.out nrb)
    have HY5 := Lib.hid (hk.blk HY4.out hg1)
    have HO4 := Lib.hid ho
    have hs4 := hk.1
    clear h1 hk ho y0 HX2 HX3 HY3 HY4 HC2 HC3 HCL
    have hl4 := blk_lt HX4.out
    have HXw := Lib.hid (heap_alloc_new W4 (.cells #[.int .i64 0, .bool false, .int .i64 0, .int .i64 0, .int .i64 0, .int .i64 0, .int .i64 0, .int .i64 0, .int .i64 0, .bool false, .bool false, .int .i64 0, .int .i64 0, .int .i64 0, .int .i64 0, .int .i64 0, .int .i64 0, .slice none 0 0, .string ⟨#[]⟩] 30))
    have hsta : rowAt (W4.alloc (.cells #[.int .i64 0, .bool false, .int .i64 0, .int .i64 0, .int .i64 0, .int .i64 0, .int .i64 0, .int .i64 0, .int .i64 0, .bool false, .bool false, .int .i64 0, .int .i64 0, .int .i64 0, .int .i64 0, .int .i64 0, .int .i64 0, .slice none 0 0, .string ⟨#[]⟩] 30)) W4.heap.size 30 19 = true := rowAt_of HXw.out rfl
    obtain ⟨Wb, hWb⟩ : ∃ X, (W4.alloc (.cells #[.int .i64 0, .bool false, .int .i64 0, .int .i64 0, .int .i64 0, .int .i64 0, .int .i64 0, .int .i64 0, .int .i64 0, .bool false, .bool false, .int .i64 0, .int .i64 0, .int .i64 0, .int .i64 0, .int .i64 0, .int .i64 0, .slice none 0 0, .string ⟨#[]⟩] 30)).setRow W4.heap.size #[.int .i64 m0, .bool m1, .int .i64 m2, .int .i64 m3, .int .i64 m4, .int .i64 m5, .int .i64 m6, .int .i64 m7, .int .i64 m8, .bool m9, .bool m10, .int .i64 m11, .int .i64 m12, .int .i64 m13, .int .i64 m14, .int .i64 m15, .int .i64 m16, .slice A m17.length c, .string m18] = X := ⟨_, rfl⟩
    have hbb := below_alloc (Below.refl W4.heap.size W4) (.cells #[.int .i64 0, .bool false, .int .i64 0, .int .i64 0, .int .i64 0, .int .i64 0, .int .i64 0, .int .i64 0, .int .i64 0, .bool false, .bool false, .int .i64 0, .int .i64 0, .int .i64 0, .int .i64 0, .int .i64 0, .int .i64 0, .slice none 0 0, .string ⟨#[]⟩] 30)
    have hgl4 := HC4.out.lt
    have hlow4 := HC4.out.low.size
    have HCb := Lib.hid (show Cu w g q2 Wb from by rw [← hWb]; exact (HC4.out.below hbb).row (by omega) (by omega) _)
    have HXb := Lib.hid (show Wb.heap[W4.heap.size]? = some (.cells #[.int .i64 m0, .bool m1, .int .i64 m2, .int .i64 m3, .int .i64 m4, .int .i64 m5, .int .i64 m6, .int .i64 m7, .int .i64 m8, .bool m9, .bool m10, .int .i64 m11, .int .i64 m12, .int .i64 m13, .int .i64 m14, .int .i64 m15, .int .i64 m16, .slice A m17.length c, .string m18] 30 (0, 0)) from by rw [← hWb]; exact setRow_heap _ _ _ _ _ _ HXw.out)
    have HYb := Lib.hid (show Wb.heap[w.heap.size]? = some (.cells #[.int .i64 0, .bool false, .int .i64 0, .int .i64 0, .int .i64 0, .int .i64 0, .int .i64 0, .int .i64 0, .int .i64 0, .bool false, .bool false, .int .i64 0, .int .i64 0, .int .i64 0, .int .i64 0, .int .i64 0, .int .i64 0, .slice none 0 0, .string ⟨#[]⟩] 30 (0, 0)) from by rw [← hWb]; exact (setRow_other _ _ _ _ (by omega)).trans (blk_below HY5.out hbb))
    have HRb := Lib.hid (show Wb.heap[rb]? = some (.cells #[.pointer (some ⟨g, 0, none⟩)] 48 (0, 0)) from by rw [← hWb]; exact (setRow_other _ _ _ _ (by omega)).trans (blk_below HX4.out hbb))
    have HOb := Lib.hid (show Wb.ownsRow (w.heap.size + 1) 3 1 (.slice A m17.length c) m17.length (m17.map (Value.int .i64)) from by rw [← hWb]; exact own_row_new (own_above HO4.out (by omega)) _ _)
    clear hbb hgl4 hlow4 HC4 HX4 HY5 HO4
    have y0 : Wb.cell? ⟨rb, 0, none⟩ = some (.pointer (some ⟨g, 0, none⟩)) := (blk_cell HRb.out 0).trans rfl
    go_upto_region 10 with (fail)
    try rw [hWb]
    clear hWb hsta y0
    have hst : rowAt Wb w.heap.size 30 19 = true := rowAt_of HYb.out rfl
    have HZ := Lib.hid (setRow_heap Wb w.heap.size _ #[.int .i64 0, .bool false, .int .i64 0, .int .i64 0, .int .i64 0, .int .i64 0, .int .i64 0, .int .i64 0, .int .i64 0, .bool false, .bool false, .int .i64 0, .int .i64 0, .int .i64 0, .int .i64 0, .int .i64 0, .int .i64 0, .slice none 0 0, .string ⟨#[]⟩] _ _ HYb.out)
    have HCz := Lib.hid (Cu.row HCb.out hg1 HG0.out #[.int .i64 0, .bool false, .int .i64 0, .int .i64 0, .int .i64 0, .int .i64 0, .int .i64 0, .int .i64 0, .int .i64 0, .bool false, .bool false, .int .i64 0, .int .i64 0, .int .i64 0, .int .i64 0, .int .i64 0, .int .i64 0, .slice none 0 0, .string ⟨#[]⟩])
    go_wp2_with fail
    refine bodyPost_ret (results_ctt rfl _ _ w.heap.size 30 #[.int .i64 0, .bool false, .int .i64 0, .int .i64 0, .int .i64 0, .int .i64 0, .int .i64 0, .int .i64 0, .int .i64 0, .bool false, .bool false, .int .i64 0, .int .i64 0, .int .i64 0, .int .i64 0, .int .i64 0, .int .i64 0, .slice none 0 0, .string ⟨#[]⟩] (0, 0) _ rfl (by with_reducible exact HZ.out) Try.underlying30 rfl (by kernel_rfl)) rfl ?_
    exact ⟨_, rfl, Kd.R_of_own (enc := Value.int .i64) (World.ownsRow_nil _ _ _ _) (fun _ _ => trivial), HCz.out.low⟩
set_option maxHeartbeats 4000000 in
set_option maxRecDepth 100000 in
theorem clientmsg_Parse_more (a0 : ByteArray) (n : Int) (q1 : CS) (m0 : Int) (m1 : Bool) (m2 : Int) (m3 : Int) (m4 : Int) (m5 : Int) (m6 : Int) (m7 : Int) (m8 : Int) (m9 : Bool) (m10 : Bool) (m11 : Int) (m12 : Int) (m13 : Int) (m14 : Int) (m15 : Int) (m16 : Int) (m17 : List Int) (m18 : ByteArray) (er : Int) (q2 : CS) (hc : q1.ce = 0) (hr : readC n q1 = some ((m0, m1, m2, m3, m4, m5, m6, m7, m8, m9, m10, m11, m12, m13, m14, m15, m16, m17, m18, er), q2)) (he : er = 0) (hq : q2.ce ≠ 0) (w : World) (E0 : Hid (intC ⟨a0, 0, 0⟩ 1 = some (n, q1))) :
    Calls Try.prog 8 #[.string a0] w fun e w' => ∃ v0_ : Value, e = .returned (.tuple #[.agg #[.int .i64 0, .bool false, .int .i64 0, .int .i64 0, .int .i64 0, .int .i64 0, .int .i64 0, .int .i64 0, .int .i64 0, .bool false, .bool false, .int .i64 0, .int .i64 0, .int .i64 0, .int .i64 0, .int .i64 0, .int .i64 0, v0_, .string ⟨#[]⟩], .int .i64 0, .int .i64 q2.ce]) ∧ Kd.R (Kd.int .i64) 3 w' w.heap.size (fun _ => True) v0_ [] ∧ Below w.heap.size w w' := by
  have d1 : (q1.ce != 0) = false := by simpa using hc
  have HR := Lib.hid hr
  clear hc hr
  obtain rfl := he
  have d3 : (q2.ce != 0) = true := by simpa using hq
  clear hq
  obtain ⟨Wa, hWa⟩ : ∃ X, w.alloc (.cells #[.int .i64 0, .bool false, .int .i64 0, .int .i64 0, .int .i64 0, .int .i64 0, .int .i64 0, .int .i64 0, .int .i64 0, .bool false, .bool false, .int .i64 0, .int .i64 0, .int .i64 0, .int .i64 0, .int .i64 0, .int .i64 0, .slice none 0 0, .string ⟨#[]⟩] 30) = X := ⟨_, rfl⟩
  have HYa := Lib.hid (show Wa.heap[w.heap.size]? = some (.cells #[.int .i64 0, .bool false, .int .i64 0, .int .i64 0, .int .i64 0, .int .i64 0, .int .i64 0, .int .i64 0, .int .i64 0, .bool false, .bool false, .int .i64 0, .int .i64 0, .int .i64 0, .int .i64 0, .int .i64 0, .int .i64 0, .slice none 0 0, .string ⟨#[]⟩] 30 (0, 0)) from by rw [← hWa]; exact heap_alloc_new w (.cells #[.int .i64 0, .bool false, .int .i64 0, .int .i64 0, .int .i64 0, .int .i64 0, .int .i64 0, .int .i64 0, .int .i64 0, .bool false, .bool false, .int .i64 0, .int .i64 0, .int .i64 0, .int .i64 0, .int .i64 0, .int .i64 0, .slice none 0 0, .string ⟨#[]⟩] 30))
  have HBa := Lib.hid (show Below w.heap.size w Wa from by rw [← hWa]; exact below_alloc (Below.refl _ _) _)
  go_enter Try.func8, Try.ntmps8
  go_wp2_with fail
  try rw [hWa]
  clear hWa
  refine (octets_New.calls a0 a0 0 0 w Wa HBa.out rfl).mono ?_
  rintro en w1 ⟨g, rfl, hi, hb, hb2⟩
  have HY1 := Lib.hid (blk_below HYa.out hb2)
  have hg1 : w.heap.size ≠ g := fun e => by have h1 := HY1.out; rw [e, hi.1] at h1; simp at h1
  have hrb : w.heap.size < w1.heap.size := blk_lt HY1.out
  have hgl : g < w1.heap.size := blk_lt hi.1
  obtain ⟨W1, hW1⟩ : ∃ X, w1.alloc (.cells #[.pointer (some ⟨g, 0, none⟩)] 48) = X := ⟨_, rfl⟩
  have hb3 := below_alloc (Below.refl w1.heap.size w1) (.cells #[.pointer (some ⟨g, 0, none⟩)] 48)
  rw [hW1] at hb3
  have HC1 := Lib.hid (show Cu w g ⟨a0, 0, 0⟩ W1 from Cu.below (W := w1) ⟨hi, hb⟩ hb3)
  have HX1 := Lib.hid (show W1.heap[w1.heap.size]? = some (.cells #[.pointer (some ⟨g, 0, none⟩)] 48 (0, 0)) from by rw [← hW1]; exact heap_alloc_new w1 _)
  have HY2 := Lib.hid (show W1.heap[w.heap.size]? = some (.cells #[.int .i64 0, .bool false, .int .i64 0, .int .i64 0, .int .i64 0, .int .i64 0, .int .i64 0, .int .i64 0, .int .i64 0, .bool false, .bool false, .int .i64 0, .int .i64 0, .int .i64 0, .int .i64 0, .int .i64 0, .int .i64 0, .slice none 0 0, .string ⟨#[]⟩] 30 (0, 0)) from blk_below HY1.out hb3)
  clear hi hb hb2 hb3
  go_upto_region 2 with (fail)
  try rw [hW1]
  clear hW1
  obtain ⟨rb, hrbe⟩ : ∃ x, w1.heap.size = x := ⟨_, rfl⟩
  rw [hrbe] at HX1 hrb hgl ⊢
  clear hrbe HY1 HYa HBa
  have nrb : rb ≠ g := by omega
  have nbr : w.heap.size ≠ rb := by omega
  have y0 : W1.cell? ⟨rb, 0, none⟩ = some (.pointer (some ⟨g, 0, none⟩)) := (blk_cell HX1.out 0).trans rfl
  go_wp2_with fail
  refine (int_k w g ⟨a0, 0, 0⟩ 1 n q1 W1 HC1.out E0.out).mono ?_
  rintro en W2 ⟨rfl, h1, hk⟩
  have HC2 := Lib.hid h1
  have HX2 := Lib.hid (hk.blk HX1.out nrb)
  have HY3 := Lib.hid (hk.blk HY2.out hg1)
  clear h1 hk y0 HC1 HX1 HY2
  have y0 : W2.cell? ⟨rb, 0, none⟩ = some (.pointer (some ⟨g, 0, none⟩)) := (blk_cell HX2.out 0).trans rfl
  have HG0 := Lib.hid (Nat.le_refl w.heap.size)
  go_wp2_with fail
  refine (err_k w g q1 W2 HC2.out).mono ?_
  rintro en W3 ⟨rfl, hw⟩
  rw [hw]
  clear hw
  go_wp2_with fail
  obtain ⟨fn, hfs, hfn, hcl⟩ := read_k w g n q1 m0 m1 m2 m3 m4 m5 m6 m7 m8 m9 m10 m11 m12 m13 m14 m15 m16 m17 m18 0 q2 W2 HC2.out HR.out
  have HCL := Lib.hid hcl
  have HFS := Lib.hid hfs
  refine hfn.mono ?_
  clear hcl hfn hfs
  rintro en W3 ⟨rfl, hb⟩
  have HX3 := Lib.hid (blk_below HX2.out hb)
  have HY4 := Lib.hid (blk_below HY3.out hb)
  have HC3 := Lib.hid (HC2.out.below hb)
  have hs3 := hb.size
  have hrb2 := blk_lt HX2.out
  clear hb y0
  have y0 : W3.cell? ⟨rb, 0, none⟩ = some (.pointer (some ⟨g, 0, none⟩)) := (blk_cell HX3.out 0).trans rfl
  rcases HFS.out with rfl | rfl | rfl | rfl | rfl | rfl
  all_goals
    clear HFS
    go_wp2_with fail
    refine (HCL.out W3 HC3.out).mono ?_
    rintro en W4 ⟨A, c, rfl, ho, h1, hk⟩
    have HC4 := Lib.hid h1
    have HX4 := Lib.hid (hk.blk HX3.out nrb)
    have HY5 := Lib.hid (hk.blk HY4.out hg1)
    have HO4 := Lib.hid ho
    have hs4 := hk.1
    clear h1 hk ho y0 HX2 HX3 HY3 HY4 HC2 HC3 HCL
    have hl4 := blk_lt HX4.out
    have HXw := Lib.hid (heap_alloc_new W4 (.cells #[.int .i64 0, .bool false, .int .i64 0, .int .i64 0, .int .i64 0, .int .i64 0, .int .i64 0, .int .i64 0, .int .i64 0, .bool false, .bool false, .int .i64 0, .int .i64 0, .int .i64 0, .int .i64 0, .int .i64 0, .int .i64 0, .slice none 0 0, .string ⟨#[]⟩] 30))
    have hsta : rowAt (W4.alloc (.cells #[.int .i64 0, .bool false, .int .i64 0, .int .i64 0, .int .i64 0, .int .i64 0, .int .i64 0, .int .i64 0, .int .i64 0, .bool false, .bool false, .int .i64 0, .int .i64 0, .int .i64 0, .int .i64 0, .int .i64 0, .int .i64 0, .slice none 0 0, .string ⟨#[]⟩] 30)) W4.heap.size 30 19 = true := rowAt_of HXw.out rfl
    obtain ⟨Wb, hWb⟩ : ∃ X, (W4.alloc (.cells #[.int .i64 0, .bool false, .int .i64 0, .int .i64 0, .int .i64 0, .int .i64 0, .int .i64 0, .int .i64 0, .int .i64 0, .bool false, .bool false, .int .i64 0, .int .i64 0, .int .i64 0, .int .i64 0, .int .i64 0, .int .i64 0, .slice none 0 0, .string ⟨#[]⟩] 30)).setRow W4.heap.size #[.int .i64 m0, .bool m1, .int .i64 m2, .int .i64 m3, .int .i64 m4, .int .i64 m5, .int .i64 m6, .int .i64 m7, .int .i64 m8, .bool m9, .bool m10, .int .i64 m11, .int .i64 m12, .int .i64 m13, .int .i64 m14, .int .i64 m15, .int .i64 m16, .slice A m17.length c, .string m18] = X := ⟨_, rfl⟩
    have hbb := below_alloc (Below.refl W4.heap.size W4) (.cells #[.int .i64 0, .bool false, .int .i64 0, .int .i64 0, .int .i64 0, .int .i64 0, .int .i64 0, .int .i64 0, .int .i64 0, .bool false, .bool false, .int .i64 0, .int .i64 0, .int .i64 0, .int .i64 0, .int .i64 0, .int .i64 0, .slice none 0 0, .string ⟨#[]⟩] 30)
    have hgl4 := HC4.out.lt
    have hlow4 := HC4.out.low.size
    have HCb := Lib.hid (show Cu w g q2 Wb from by rw [← hWb]; exact (HC4.out.below hbb).row (by omega) (by omega) _)
    have HXb := Lib.hid (show Wb.heap[W4.heap.size]? = some (.cells #[.int .i64 m0, .bool m1, .int .i64 m2, .int .i64 m3, .int .i64 m4, .int .i64 m5, .int .i64 m6, .int .i64 m7, .int .i64 m8, .bool m9, .bool m10, .int .i64 m11, .int .i64 m12, .int .i64 m13, .int .i64 m14, .int .i64 m15, .int .i64 m16, .slice A m17.length c, .string m18] 30 (0, 0)) from by rw [← hWb]; exact setRow_heap _ _ _ _ _ _ HXw.out)
    have HYb := Lib.hid (show Wb.heap[w.heap.size]? = some (.cells #[.int .i64 0, .bool false, .int .i64 0, .int .i64 0, .int .i64 0, .int .i64 0, .int .i64 0, .int .i64 0, .int .i64 0, .bool false, .bool false, .int .i64 0, .int .i64 0, .int .i64 0, .int .i64 0, .int .i64 0, .int .i64 0, .slice none 0 0, .string ⟨#[]⟩] 30 (0, 0)) from by rw [← hWb]; exact (setRow_other _ _ _ _ (by omega)).trans (blk_below HY5.out hbb))
    have HRb := Lib.hid (show Wb.heap[rb]? = some (.cells #[.pointer (some ⟨g, 0, none⟩)] 48 (0, 0)) from by rw [← hWb]; exact (setRow_other _ _ _ _ (by omega)).trans (blk_below HX4.out hbb))
    have HOb := Lib.hid (show Wb.ownsRow (w.heap.size + 1) 3 1 (.slice A m17.length c) m17.length (m17.map (Value.int .i64)) from by rw [← hWb]; exact own_row_new (own_above HO4.out (by omega)) _ _)
    clear hbb hgl4 hlow4 HC4 HX4 HY5 HO4
    have y0 : Wb.cell? ⟨rb, 0, none⟩ = some (.pointer (some ⟨g, 0, none⟩)) := (blk_cell HRb.out 0).trans rfl
    go_upto_region 10 with (fail)
    try rw [hWb]
    clear hWb hsta
    go_wp2_with fail
    refine (err_k w g q2 Wb HCb.out).mono ?_
    rintro en W5 ⟨rfl, hw⟩
    rw [hw]
    clear hw y0
    have hst : rowAt Wb w.heap.size 30 19 = true := rowAt_of HYb.out rfl
    have HZ := Lib.hid (setRow_heap Wb w.heap.size _ #[.int .i64 0, .bool false, .int .i64 0, .int .i64 0, .int .i64 0, .int .i64 0, .int .i64 0, .int .i64 0, .int .i64 0, .bool false, .bool false, .int .i64 0, .int .i64 0, .int .i64 0, .int .i64 0, .int .i64 0, .int .i64 0, .slice none 0 0, .string ⟨#[]⟩] _ _ HYb.out)
    have HCz := Lib.hid (Cu.row HCb.out hg1 HG0.out #[.int .i64 0, .bool false, .int .i64 0, .int .i64 0, .int .i64 0, .int .i64 0, .int .i64 0, .int .i64 0, .int .i64 0, .bool false, .bool false, .int .i64 0, .int .i64 0, .int .i64 0, .int .i64 0, .int .i64 0, .int .i64 0, .slice none 0 0, .string ⟨#[]⟩])
    go_wp2_with fail
    refine bodyPost_ret (results_ctt rfl _ _ w.heap.size 30 #[.int .i64 0, .bool false, .int .i64 0, .int .i64 0, .int .i64 0, .int .i64 0, .int .i64 0, .int .i64 0, .int .i64 0, .bool false, .bool false, .int .i64 0, .int .i64 0, .int .i64 0, .int .i64 0, .int .i64 0, .int .i64 0, .slice none 0 0, .string ⟨#[]⟩] (0, 0) _ rfl (by with_reducible exact HZ.out) Try.underlying30 rfl (by kernel_rfl)) rfl ?_
    exact ⟨_, rfl, Kd.R_of_own (enc := Value.int .i64) (World.ownsRow_nil _ _ _ _) (fun _ _ => trivial), HCz.out.low⟩
set_option maxHeartbeats 4000000 in
set_option maxRecDepth 100000 in
theorem clientmsg_Parse_yes (a0 : ByteArray) (n : Int) (q1 : CS) (m0 : Int) (m1 : Bool) (m2 : Int) (m3 : Int) (m4 : Int) (m5 : Int) (m6 : Int) (m7 : Int) (m8 : Int) (m9 : Bool) (m10 : Bool) (m11 : Int) (m12 : Int) (m13 : Int) (m14 : Int) (m15 : Int) (m16 : Int) (m17 : List Int) (m18 : ByteArray) (er : Int) (q2 : CS) (hc : q1.ce = 0) (hr : readC n q1 = some ((m0, m1, m2, m3, m4, m5, m6, m7, m8, m9, m10, m11, m12, m13, m14, m15, m16, m17, m18, er), q2)) (he : er = 0) (hq : q2.ce = 0) (w : World) (E0 : Hid (intC ⟨a0, 0, 0⟩ 1 = some (n, q1))) :
    Calls Try.prog 8 #[.string a0] w fun e w' => ∃ v0_ : Value, e = .returned (.tuple #[.agg #[.int .i64 m0, .bool m1, .int .i64 m2, .int .i64 m3, .int .i64 m4, .int .i64 m5, .int .i64 m6, .int .i64 m7, .int .i64 m8, .bool m9, .bool m10, .int .i64 m11, .int .i64 m12, .int .i64 m13, .int .i64 m14, .int .i64 m15, .int .i64 m16, v0_, .string m18], .int .i64 q2.at_, .int .i64 0]) ∧ Kd.R (Kd.int .i64) 3 w' w.heap.size (fun _ => True) v0_ m17 ∧ Below w.heap.size w w' := by
  have d1 : (q1.ce != 0) = false := by simpa using hc
  have HR := Lib.hid hr
  clear hc hr
  obtain rfl := he
  have d3 : (q2.ce != 0) = false := by simpa using hq
  clear hq
  obtain ⟨Wa, hWa⟩ : ∃ X, w.alloc (.cells #[.int .i64 0, .bool false, .int .i64 0, .int .i64 0, .int .i64 0, .int .i64 0, .int .i64 0, .int .i64 0, .int .i64 0, .bool false, .bool false, .int .i64 0, .int .i64 0, .int .i64 0, .int .i64 0, .int .i64 0, .int .i64 0, .slice none 0 0, .string ⟨#[]⟩] 30) = X := ⟨_, rfl⟩
  have HYa := Lib.hid (show Wa.heap[w.heap.size]? = some (.cells #[.int .i64 0, .bool false, .int .i64 0, .int .i64 0, .int .i64 0, .int .i64 0, .int .i64 0, .int .i64 0, .int .i64 0, .bool false, .bool false, .int .i64 0, .int .i64 0, .int .i64 0, .int .i64 0, .int .i64 0, .int .i64 0, .slice none 0 0, .string ⟨#[]⟩] 30 (0, 0)) from by rw [← hWa]; exact heap_alloc_new w (.cells #[.int .i64 0, .bool false, .int .i64 0, .int .i64 0, .int .i64 0, .int .i64 0, .int .i64 0, .int .i64 0, .int .i64 0, .bool false, .bool false, .int .i64 0, .int .i64 0, .int .i64 0, .int .i64 0, .int .i64 0, .int .i64 0, .slice none 0 0, .string ⟨#[]⟩] 30))
  have HBa := Lib.hid (show Below w.heap.size w Wa from by rw [← hWa]; exact below_alloc (Below.refl _ _) _)
  go_enter Try.func8, Try.ntmps8
  go_wp2_with fail
  try rw [hWa]
  clear hWa
  refine (octets_New.calls a0 a0 0 0 w Wa HBa.out rfl).mono ?_
  rintro en w1 ⟨g, rfl, hi, hb, hb2⟩
  have HY1 := Lib.hid (blk_below HYa.out hb2)
  have hg1 : w.heap.size ≠ g := fun e => by have h1 := HY1.out; rw [e, hi.1] at h1; simp at h1
  have hrb : w.heap.size < w1.heap.size := blk_lt HY1.out
  have hgl : g < w1.heap.size := blk_lt hi.1
  obtain ⟨W1, hW1⟩ : ∃ X, w1.alloc (.cells #[.pointer (some ⟨g, 0, none⟩)] 48) = X := ⟨_, rfl⟩
  have hb3 := below_alloc (Below.refl w1.heap.size w1) (.cells #[.pointer (some ⟨g, 0, none⟩)] 48)
  rw [hW1] at hb3
  have HC1 := Lib.hid (show Cu w g ⟨a0, 0, 0⟩ W1 from Cu.below (W := w1) ⟨hi, hb⟩ hb3)
  have HX1 := Lib.hid (show W1.heap[w1.heap.size]? = some (.cells #[.pointer (some ⟨g, 0, none⟩)] 48 (0, 0)) from by rw [← hW1]; exact heap_alloc_new w1 _)
  have HY2 := Lib.hid (show W1.heap[w.heap.size]? = some (.cells #[.int .i64 0, .bool false, .int .i64 0, .int .i64 0, .int .i64 0, .int .i64 0, .int .i64 0, .int .i64 0, .int .i64 0, .bool false, .bool false, .int .i64 0, .int .i64 0, .int .i64 0, .int .i64 0, .int .i64 0, .int .i64 0, .slice none 0 0, .string ⟨#[]⟩] 30 (0, 0)) from blk_below HY1.out hb3)
  clear hi hb hb2 hb3
  go_upto_region 2 with (fail)
  try rw [hW1]
  clear hW1
  obtain ⟨rb, hrbe⟩ : ∃ x, w1.heap.size = x := ⟨_, rfl⟩
  rw [hrbe] at HX1 hrb hgl ⊢
  clear hrbe HY1 HYa HBa
  have nrb : rb ≠ g := by omega
  have nbr : w.heap.size ≠ rb := by omega
  have y0 : W1.cell? ⟨rb, 0, none⟩ = some (.pointer (some ⟨g, 0, none⟩)) := (blk_cell HX1.out 0).trans rfl
  go_wp2_with fail
  refine (int_k w g ⟨a0, 0, 0⟩ 1 n q1 W1 HC1.out E0.out).mono ?_
  rintro en W2 ⟨rfl, h1, hk⟩
  have HC2 := Lib.hid h1
  have HX2 := Lib.hid (hk.blk HX1.out nrb)
  have HY3 := Lib.hid (hk.blk HY2.out hg1)
  clear h1 hk y0 HC1 HX1 HY2
  have y0 : W2.cell? ⟨rb, 0, none⟩ = some (.pointer (some ⟨g, 0, none⟩)) := (blk_cell HX2.out 0).trans rfl
  have HG0 := Lib.hid (Nat.le_refl w.heap.size)
  go_wp2_with fail
  refine (err_k w g q1 W2 HC2.out).mono ?_
  rintro en W3 ⟨rfl, hw⟩
  rw [hw]
  clear hw
  go_wp2_with fail
  obtain ⟨fn, hfs, hfn, hcl⟩ := read_k w g n q1 m0 m1 m2 m3 m4 m5 m6 m7 m8 m9 m10 m11 m12 m13 m14 m15 m16 m17 m18 0 q2 W2 HC2.out HR.out
  have HCL := Lib.hid hcl
  have HFS := Lib.hid hfs
  refine hfn.mono ?_
  clear hcl hfn hfs
  rintro en W3 ⟨rfl, hb⟩
  have HX3 := Lib.hid (blk_below HX2.out hb)
  have HY4 := Lib.hid (blk_below HY3.out hb)
  have HC3 := Lib.hid (HC2.out.below hb)
  have hs3 := hb.size
  have hrb2 := blk_lt HX2.out
  clear hb y0
  have y0 : W3.cell? ⟨rb, 0, none⟩ = some (.pointer (some ⟨g, 0, none⟩)) := (blk_cell HX3.out 0).trans rfl
  rcases HFS.out with rfl | rfl | rfl | rfl | rfl | rfl
  all_goals
    clear HFS
    go_wp2_with fail
    refine (HCL.out W3 HC3.out).mono ?_
    rintro en W4 ⟨A, c, rfl, ho, h1, hk⟩
    have HC4 := Lib.hid h1
    have HX4 := Lib.hid (hk.blk HX3.out nrb)
    have HY5 := Lib.hid (hk.blk HY4.out hg1)
    have HO4 := Lib.hid ho
    have hs4 := hk.1
    clear h1 hk ho y0 HX2 HX3 HY3 HY4 HC2 HC3 HCL
    have hl4 := blk_lt HX4.out
    have HXw := Lib.hid (heap_alloc_new W4 (.cells #[.int .i64 0, .bool false, .int .i64 0, .int .i64 0, .int .i64 0, .int .i64 0, .int .i64 0, .int .i64 0, .int .i64 0, .bool false, .bool false, .int .i64 0, .int .i64 0, .int .i64 0, .int .i64 0, .int .i64 0, .int .i64 0, .slice none 0 0, .string ⟨#[]⟩] 30))
    have hsta : rowAt (W4.alloc (.cells #[.int .i64 0, .bool false, .int .i64 0, .int .i64 0, .int .i64 0, .int .i64 0, .int .i64 0, .int .i64 0, .int .i64 0, .bool false, .bool false, .int .i64 0, .int .i64 0, .int .i64 0, .int .i64 0, .int .i64 0, .int .i64 0, .slice none 0 0, .string ⟨#[]⟩] 30)) W4.heap.size 30 19 = true := rowAt_of HXw.out rfl
    obtain ⟨Wb, hWb⟩ : ∃ X, (W4.alloc (.cells #[.int .i64 0, .bool false, .int .i64 0, .int .i64 0, .int .i64 0, .int .i64 0, .int .i64 0, .int .i64 0, .int .i64 0, .bool false, .bool false, .int .i64 0, .int .i64 0, .int .i64 0, .int .i64 0, .int .i64 0, .int .i64 0, .slice none 0 0, .string ⟨#[]⟩] 30)).setRow W4.heap.size #[.int .i64 m0, .bool m1, .int .i64 m2, .int .i64 m3, .int .i64 m4, .int .i64 m5, .int .i64 m6, .int .i64 m7, .int .i64 m8, .bool m9, .bool m10, .int .i64 m11, .int .i64 m12, .int .i64 m13, .int .i64 m14, .int .i64 m15, .int .i64 m16, .slice A m17.length c, .string m18] = X := ⟨_, rfl⟩
    have hbb := below_alloc (Below.refl W4.heap.size W4) (.cells #[.int .i64 0, .bool false, .int .i64 0, .int .i64 0, .int .i64 0, .int .i64 0, .int .i64 0, .int .i64 0, .int .i64 0, .bool false, .bool false, .int .i64 0, .int .i64 0, .int .i64 0, .int .i64 0, .int .i64 0, .int .i64 0, .slice none 0 0, .string ⟨#[]⟩] 30)
    have hgl4 := HC4.out.lt
    have hlow4 := HC4.out.low.size
    have HCb := Lib.hid (show Cu w g q2 Wb from by rw [← hWb]; exact (HC4.out.below hbb).row (by omega) (by omega) _)
    have HXb := Lib.hid (show Wb.heap[W4.heap.size]? = some (.cells #[.int .i64 m0, .bool m1, .int .i64 m2, .int .i64 m3, .int .i64 m4, .int .i64 m5, .int .i64 m6, .int .i64 m7, .int .i64 m8, .bool m9, .bool m10, .int .i64 m11, .int .i64 m12, .int .i64 m13, .int .i64 m14, .int .i64 m15, .int .i64 m16, .slice A m17.length c, .string m18] 30 (0, 0)) from by rw [← hWb]; exact setRow_heap _ _ _ _ _ _ HXw.out)
    have HYb := Lib.hid (show Wb.heap[w.heap.size]? = some (.cells #[.int .i64 0, .bool false, .int .i64 0, .int .i64 0, .int .i64 0, .int .i64 0, .int .i64 0, .int .i64 0, .int .i64 0, .bool false, .bool false, .int .i64 0, .int .i64 0, .int .i64 0, .int .i64 0, .int .i64 0, .int .i64 0, .slice none 0 0, .string ⟨#[]⟩] 30 (0, 0)) from by rw [← hWb]; exact (setRow_other _ _ _ _ (by omega)).trans (blk_below HY5.out hbb))
    have HRb := Lib.hid (show Wb.heap[rb]? = some (.cells #[.pointer (some ⟨g, 0, none⟩)] 48 (0, 0)) from by rw [← hWb]; exact (setRow_other _ _ _ _ (by omega)).trans (blk_below HX4.out hbb))
    have HOb := Lib.hid (show Wb.ownsRow (w.heap.size + 1) 3 1 (.slice A m17.length c) m17.length (m17.map (Value.int .i64)) from by rw [← hWb]; exact own_row_new (own_above HO4.out (by omega)) _ _)
    clear hbb hgl4 hlow4 HC4 HX4 HY5 HO4
    have y0 : Wb.cell? ⟨rb, 0, none⟩ = some (.pointer (some ⟨g, 0, none⟩)) := (blk_cell HRb.out 0).trans rfl
    go_upto_region 10 with (fail)
    try rw [hWb]
    clear hWb hsta
    go_wp2_with fail
    refine (err_k w g q2 Wb HCb.out).mono ?_
    rintro en W5 ⟨rfl, hw⟩
    rw [hw]
    clear hw y0
    have HO5 := Lib.hid (show (Wb.drew).ownsRow (w.heap.size + 1) 3 1 (.slice A m17.length c) m17.length (m17.map (Value.int .i64)) from HOb.out)
    have HC := Lib.hid (setRow_heap Wb.drew w.heap.size _ #[.int .i64 m0, .bool m1, .int .i64 m2, .int .i64 m3, .int .i64 m4, .int .i64 m5, .int .i64 m6, .int .i64 m7, .int .i64 m8, .bool m9, .bool m10, .int .i64 m11, .int .i64 m12, .int .i64 m13, .int .i64 m14, .int .i64 m15, .int .i64 m16, .slice A m17.length c, .string m18] _ _ (blk_drew HYb.out))
    have HRz := Lib.hid (Cu.row HCb.out.drew hg1 HG0.out #[.int .i64 m0, .bool m1, .int .i64 m2, .int .i64 m3, .int .i64 m4, .int .i64 m5, .int .i64 m6, .int .i64 m7, .int .i64 m8, .bool m9, .bool m10, .int .i64 m11, .int .i64 m12, .int .i64 m13, .int .i64 m14, .int .i64 m15, .int .i64 m16, .slice A m17.length c, .string m18])
    have HOz := Lib.hid (show ((Wb.drew).setRow w.heap.size #[.int .i64 m0, .bool m1, .int .i64 m2, .int .i64 m3, .int .i64 m4, .int .i64 m5, .int .i64 m6, .int .i64 m7, .int .i64 m8, .bool m9, .bool m10, .int .i64 m11, .int .i64 m12, .int .i64 m13, .int .i64 m14, .int .i64 m15, .int .i64 m16, .slice A m17.length c, .string m18]).ownsRow w.heap.size 3 1 (.slice A m17.length c) m17.length (m17.map (Value.int .i64)) from own_above (own_row_low HO5.out (by omega) _) (by omega))
    have hd1 : rowAt Wb.drew W4.heap.size 30 19 = true := rowAt_of (blk_drew HXb.out) rfl
    have hd2 : cellsAt Wb.drew W4.heap.size = #[.int .i64 m0, .bool m1, .int .i64 m2, .int .i64 m3, .int .i64 m4, .int .i64 m5, .int .i64 m6, .int .i64 m7, .int .i64 m8, .bool m9, .bool m10, .int .i64 m11, .int .i64 m12, .int .i64 m13, .int .i64 m14, .int .i64 m15, .int .i64 m16, .slice A m17.length c, .string m18] := cellsAt_of (blk_drew HXb.out)
    have hd3 : Wb.drew.cell? ⟨rb, 0, none⟩ = some (.pointer (some ⟨g, 0, none⟩)) := (blk_cell (blk_drew HRb.out) 0).trans rfl
    go_upto_region 14 with (fail)
    go_still_tail 4, (by kernel_rfl)
    still_call (at_k w g q2 _ HCb.out.drew)
    try refine wpStill_nil ?_
    change wpList _ _ _ _ _ Wb.drew
    clear hd1 hd2 hd3
    have hst : rowAt Wb.drew w.heap.size 30 19 = true := rowAt_of (blk_drew HYb.out) rfl
    go_wp2_with fail
    refine bodyPost_ret (results_ctt rfl _ _ w.heap.size 30 #[.int .i64 m0, .bool m1, .int .i64 m2, .int .i64 m3, .int .i64 m4, .int .i64 m5, .int .i64 m6, .int .i64 m7, .int .i64 m8, .bool m9, .bool m10, .int .i64 m11, .int .i64 m12, .int .i64 m13, .int .i64 m14, .int .i64 m15, .int .i64 m16, .slice A m17.length c, .string m18] (0, 0) _ rfl (by with_reducible exact HC.out) Try.underlying30 rfl (by kernel_rfl)) rfl ?_
    exact ⟨_, rfl, Kd.R_of_own (enc := Value.int .i64) HOz.out (fun _ _ => trivial), HRz.out.low⟩
end
set_option maxHeartbeats 4000000 in
set_option maxRecDepth 100000 in
theorem clientmsg_Parse.calls (a0 : ByteArray) (r1 : Int) (r2 : Bool) (r3 : Int) (r4 : Int) (r5 : Int) (r6 : Int) (r7 : Int) (r8 : Int) (r9 : Int) (r10 : Bool) (r11 : Bool) (r12 : Int) (r13 : Int) (r14 : Int) (r15 : Int) (r16 : Int) (r17 : Int) (r18 : List Int) (r19 : ByteArray) (r20 r21 : Int) (w : World) (h : clientmsg_Parse.f a0 = some (r1, r2, r3, r4, r5, r6, r7, r8, r9, r10, r11, r12, r13, r14, r15, r16, r17, r18, r19, r20, r21)) :
    Calls Try.prog 8 #[.string a0] w fun e w' => ∃ v0_ : Value, e = .returned (.tuple #[.agg #[.int .i64 r1, .bool r2, .int .i64 r3, .int .i64 r4, .int .i64 r5, .int .i64 r6, .int .i64 r7, .int .i64 r8, .int .i64 r9, .bool r10, .bool r11, .int .i64 r12, .int .i64 r13, .int .i64 r14, .int .i64 r15, .int .i64 r16, .int .i64 r17, v0_, .string r19], .int .i64 r20, .int .i64 r21]) ∧ Kd.R (Kd.int .i64) 3 w' w.heap.size (fun _ => True) v0_ r18 ∧ Below w.heap.size w w' := by
  unfold clientmsg_Parse.f at h
  obtain ⟨⟨n, q1⟩, e0, h⟩ := Option.bind_eq_some_iff.1 h
  have h : (if q1.ce = 0 then if n = 0 ∨ n = 2 ∨ n = 3 ∨ n = 4 ∨ n = 5 ∨ n = 6 then _ else _ else _) = some _ := h
  by_cases hc : q1.ce = 0
  · rw [if_pos hc] at h
    by_cases hk : n = 0 ∨ n = 2 ∨ n = 3 ∨ n = 4 ∨ n = 5 ∨ n = 6
    · rw [if_pos hk] at h
      obtain ⟨⟨⟨m0, m1, m2, m3, m4, m5, m6, m7, m8, m9, m10, m11, m12, m13, m14, m15, m16, m17, m18, er⟩, q2⟩, e1, h⟩ := Option.bind_eq_some_iff.1 h
      have h : (if er = 0 then if q2.ce = 0 then some (m0, m1, m2, m3, m4, m5, m6, m7, m8, m9, m10, m11, m12, m13, m14, m15, m16, m17, m18, q2.at_, 0) else some (0, false, 0, 0, 0, 0, 0, 0, 0, false, false, 0, 0, 0, 0, 0, 0, [], ⟨#[]⟩, 0, q2.ce) else some (0, false, 0, 0, 0, 0, 0, 0, 0, false, false, 0, 0, 0, 0, 0, 0, [], ⟨#[]⟩, 0, er)) = some (r1, r2, r3, r4, r5, r6, r7, r8, r9, r10, r11, r12, r13, r14, r15, r16, r17, r18, r19, r20, r21) := h
      by_cases he : er = 0
      · rw [if_pos he] at h
        by_cases hq : q2.ce = 0
        · rw [if_pos hq] at h
          obtain ⟨rfl, rfl, rfl, rfl, rfl, rfl, rfl, rfl, rfl, rfl, rfl, rfl, rfl, rfl, rfl, rfl, rfl, rfl, rfl, rfl, rfl⟩ : (m0 : Int) = r1 ∧ (m1 : Bool) = r2 ∧ (m2 : Int) = r3 ∧ (m3 : Int) = r4 ∧ (m4 : Int) = r5 ∧ (m5 : Int) = r6 ∧ (m6 : Int) = r7 ∧ (m7 : Int) = r8 ∧ (m8 : Int) = r9 ∧ (m9 : Bool) = r10 ∧ (m10 : Bool) = r11 ∧ (m11 : Int) = r12 ∧ (m12 : Int) = r13 ∧ (m13 : Int) = r14 ∧ (m14 : Int) = r15 ∧ (m15 : Int) = r16 ∧ (m16 : Int) = r17 ∧ (m17 : List Int) = r18 ∧ (m18 : ByteArray) = r19 ∧ (q2.at_ : Int) = r20 ∧ (0 : Int) = r21 := by simpa using h
          exact clientmsg_Parse_yes a0 n q1 m0 m1 m2 m3 m4 m5 m6 m7 m8 m9 m10 m11 m12 m13 m14 m15 m16 m17 m18 er q2 hc e1 he hq w (Lib.hid e0)
        · rw [if_neg hq] at h
          obtain ⟨rfl, rfl, rfl, rfl, rfl, rfl, rfl, rfl, rfl, rfl, rfl, rfl, rfl, rfl, rfl, rfl, rfl, rfl, rfl, rfl, rfl⟩ : (0 : Int) = r1 ∧ (false : Bool) = r2 ∧ (0 : Int) = r3 ∧ (0 : Int) = r4 ∧ (0 : Int) = r5 ∧ (0 : Int) = r6 ∧ (0 : Int) = r7 ∧ (0 : Int) = r8 ∧ (0 : Int) = r9 ∧ (false : Bool) = r10 ∧ (false : Bool) = r11 ∧ (0 : Int) = r12 ∧ (0 : Int) = r13 ∧ (0 : Int) = r14 ∧ (0 : Int) = r15 ∧ (0 : Int) = r16 ∧ (0 : Int) = r17 ∧ ([] : List Int) = r18 ∧ (⟨#[]⟩ : ByteArray) = r19 ∧ (0 : Int) = r20 ∧ (q2.ce : Int) = r21 := by simpa using h
          exact clientmsg_Parse_more a0 n q1 m0 m1 m2 m3 m4 m5 m6 m7 m8 m9 m10 m11 m12 m13 m14 m15 m16 m17 m18 er q2 hc e1 he hq w (Lib.hid e0)
      · rw [if_neg he] at h
        obtain ⟨rfl, rfl, rfl, rfl, rfl, rfl, rfl, rfl, rfl, rfl, rfl, rfl, rfl, rfl, rfl, rfl, rfl, rfl, rfl, rfl, rfl⟩ : (0 : Int) = r1 ∧ (false : Bool) = r2 ∧ (0 : Int) = r3 ∧ (0 : Int) = r4 ∧ (0 : Int) = r5 ∧ (0 : Int) = r6 ∧ (0 : Int) = r7 ∧ (0 : Int) = r8 ∧ (0 : Int) = r9 ∧ (false : Bool) = r10 ∧ (false : Bool) = r11 ∧ (0 : Int) = r12 ∧ (0 : Int) = r13 ∧ (0 : Int) = r14 ∧ (0 : Int) = r15 ∧ (0 : Int) = r16 ∧ (0 : Int) = r17 ∧ ([] : List Int) = r18 ∧ (⟨#[]⟩ : ByteArray) = r19 ∧ (0 : Int) = r20 ∧ (er : Int) = r21 := by simpa using h
        exact clientmsg_Parse_wrong a0 n q1 m0 m1 m2 m3 m4 m5 m6 m7 m8 m9 m10 m11 m12 m13 m14 m15 m16 m17 m18 er q2 hc e1 he w (Lib.hid e0)
    · rw [if_neg hk] at h
      obtain ⟨rfl, rfl, rfl, rfl, rfl, rfl, rfl, rfl, rfl, rfl, rfl, rfl, rfl, rfl, rfl, rfl, rfl, rfl, rfl, rfl, rfl⟩ : (0 : Int) = r1 ∧ (false : Bool) = r2 ∧ (0 : Int) = r3 ∧ (0 : Int) = r4 ∧ (0 : Int) = r5 ∧ (0 : Int) = r6 ∧ (0 : Int) = r7 ∧ (0 : Int) = r8 ∧ (0 : Int) = r9 ∧ (false : Bool) = r10 ∧ (false : Bool) = r11 ∧ (0 : Int) = r12 ∧ (0 : Int) = r13 ∧ (0 : Int) = r14 ∧ (0 : Int) = r15 ∧ (0 : Int) = r16 ∧ (0 : Int) = r17 ∧ ([] : List Int) = r18 ∧ (⟨#[]⟩ : ByteArray) = r19 ∧ (0 : Int) = r20 ∧ (222 : Int) = r21 := by simpa using h
      exact clientmsg_Parse_none a0 n q1 hc (fun e => hk (by simp [e])) (fun e => hk (by simp [e])) (fun e => hk (by simp [e])) (fun e => hk (by simp [e])) (fun e => hk (by simp [e])) (fun e => hk (by simp [e])) w (Lib.hid e0)
  · rw [if_neg hc] at h
    obtain ⟨rfl, rfl, rfl, rfl, rfl, rfl, rfl, rfl, rfl, rfl, rfl, rfl, rfl, rfl, rfl, rfl, rfl, rfl, rfl, rfl, rfl⟩ : (0 : Int) = r1 ∧ (false : Bool) = r2 ∧ (0 : Int) = r3 ∧ (0 : Int) = r4 ∧ (0 : Int) = r5 ∧ (0 : Int) = r6 ∧ (0 : Int) = r7 ∧ (0 : Int) = r8 ∧ (0 : Int) = r9 ∧ (false : Bool) = r10 ∧ (false : Bool) = r11 ∧ (0 : Int) = r12 ∧ (0 : Int) = r13 ∧ (0 : Int) = r14 ∧ (0 : Int) = r15 ∧ (0 : Int) = r16 ∧ (0 : Int) = r17 ∧ ([] : List Int) = r18 ∧ (⟨#[]⟩ : ByteArray) = r19 ∧ (0 : Int) = r20 ∧ (q1.ce : Int) = r21 := by simpa using h
    exact clientmsg_Parse_short a0 n q1 hc w (Lib.hid e0)

end Go.Proofs.Ytclikkhkhoicfaa.X
