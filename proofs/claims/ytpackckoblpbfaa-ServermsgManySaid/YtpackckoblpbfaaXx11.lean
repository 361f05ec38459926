/- What each Go function that these laws use answers: as a Lean function, with the proof that the machine's call comes to it. Written by a program of this session (xprint.py). -/
import Derived.Test.YtpackckoblpbfaaXx0
import Derived.Test.YtpackckoblpbfaaXx7
namespace Go.Proofs.Ytpackckoblpbfaa.X
open Go.RowKit Go.Proofs.YtpackckoblpbfaaW.PrintWords Go.Proofs.YtpackckoblpbfaaW.PrintLast Go.Proofs.YtpackckoblpbfaaW.PrintMore
attribute [local go_sem] max2_int min2_int max_two min_two max_three min_three max_four min_four   -- for this text's walks alone
set_option linter.unusedVariables false
set_option linter.unusedSimpArgs false

/-! ### format_bit: function 77 -/
def format_bit.f (a0 : Bool) : Option (Int) := if a0 = true then (some 1) else (some 0)
set_option maxHeartbeats 8000000 in
set_option maxRecDepth 100000 in
theorem format_bit.calls (a0 : Bool) (r : Int) (w : World) (h : format_bit.f a0 = some r) :
  Calls Try.prog 77 #[.bool a0] w fun e w' => e = .returned (.int .i64 r) ∧ Drawn0 w w' := by
 have H : (if a0 = true then (some 1) else (some 0)) = some r := h
 clear h
 by_cases c2 : a0 = true
 ·subst c2
  have H1 : (some 1) = some r := by rw [if_pos rfl] at H; exact H
  clear H
  have H := H1
  clear H1
  obtain rfl := Option.some.inj H
  go_enter Try.func77, Try.ntmps77
  go_wp2
  go_ret
  exact ⟨by first | rfl | (simp; done) | (simp [*]; done), by repeat (first | exact Drawn0.refl _ | apply Drawn0.step)⟩
 ·replace c2 := Bool.eq_false_iff.mpr c2
  subst c2
  have H1 : (some 0) = some r := by rw [if_neg (show ¬ (false = true) by decide)] at H; exact H
  clear H
  have H := H1
  clear H1
  obtain rfl := Option.some.inj H
  go_enter Try.func77, Try.ntmps77
  go_wp2
  go_ret
  exact ⟨by first | rfl | (simp; done) | (simp [*]; done), by repeat (first | exact Drawn0.refl _ | apply Drawn0.step)⟩

/-! ### format_Bytes: function 40 -/
/-- The ten pieces. -/
def format_tens (a0_0 : Int) (a0_1 : Int) (a0_4 : Int) (a0_5 : Int) (a0_6 : Int) (a0_7 : Int) (a0_8 : Int) (a0_9 : Int) (b2 b3 : Int) : List (Int × Int) := [(1, a0_0), (1, a0_1), (1, b2), (1, b3), (2, a0_4), (2, a0_5), (2, a0_6), (1, a0_7), (1, a0_8), (1, a0_9)]
def format_ten (a0_0 : Int) (a0_1 : Int) (a0_4 : Int) (a0_5 : Int) (a0_6 : Int) (a0_7 : Int) (a0_8 : Int) (a0_9 : Int) (b2 b3 : Int) : Nat → Int × Int
 | 0 => (1, a0_0) | 1 => (1, a0_1) | 2 => (1, b2) | 3 => (1, b3) | 4 => (2, a0_4) | 5 => (2, a0_5) | 6 => (2, a0_6) | 7 => (1, a0_7) | 8 => (1, a0_8) | _ => (1, a0_9)
theorem format_tens_at (a0_0 : Int) (a0_1 : Int) (a0_4 : Int) (a0_5 : Int) (a0_6 : Int) (a0_7 : Int) (a0_8 : Int) (a0_9 : Int) (b2 b3 : Int) (k : Nat) (hk : k < 10) : (format_tens a0_0 a0_1 a0_4 a0_5 a0_6 a0_7 a0_8 a0_9 b2 b3).drop k = ((format_ten a0_0 a0_1 a0_4 a0_5 a0_6 a0_7 a0_8 a0_9 b2 b3 k).1, (format_ten a0_0 a0_1 a0_4 a0_5 a0_6 a0_7 a0_8 a0_9 b2 b3 k).2) :: (format_tens a0_0 a0_1 a0_4 a0_5 a0_6 a0_7 a0_8 a0_9 b2 b3).drop (k + 1) := by
 rcases (show k = 0 ∨ k = 1 ∨ k = 2 ∨ k = 3 ∨ k = 4 ∨ k = 5 ∨ k = 6 ∨ k = 7 ∨ k = 8 ∨ k = 9 by omega) with rfl | rfl | rfl | rfl | rfl | rfl | rfl | rfl | rfl | rfl <;> rfl
theorem format_index10 (a0_0 : Int) (a0_1 : Int) (a0_4 : Int) (a0_5 : Int) (a0_6 : Int) (a0_7 : Int) (a0_8 : Int) (a0_9 : Int) (b2 b3 : Int) (k : Nat) (hk : k < 10) (w : World) : (Instr.index 133 (.agg #[.int .i64 1, .int .i64 a0_0, .int .i64 1, .int .i64 a0_1, .int .i64 1, .int .i64 b2, .int .i64 1, .int .i64 b3, .int .i64 2, .int .i64 a0_4, .int .i64 2, .int .i64 a0_5, .int .i64 2, .int .i64 a0_6, .int .i64 1, .int .i64 a0_7, .int .i64 1, .int .i64 a0_8, .int .i64 1, .int .i64 a0_9]) (.int .i64 (k : Int))).run Try.prog w = .ok (.agg #[.int .i64 (format_ten a0_0 a0_1 a0_4 a0_5 a0_6 a0_7 a0_8 a0_9 b2 b3 k).1, .int .i64 (format_ten a0_0 a0_1 a0_4 a0_5 a0_6 a0_7 a0_8 a0_9 b2 b3 k).2]) w := by
 rcases (show k = 0 ∨ k = 1 ∨ k = 2 ∨ k = 3 ∨ k = 4 ∨ k = 5 ∨ k = 6 ∨ k = 7 ∨ k = 8 ∨ k = 9 by omega) with rfl | rfl | rfl | rfl | rfl | rfl | rfl | rfl | rfl | rfl <;> kernel_rfl
def format_bF : List (Int × Int) → ByteArray → Option ByteArray
 | [], s => if s.size + 3 ≤ 9223372036854775807 then some (s ++ ⟨#[0, 0, 0]⟩) else none
 | (z, n) :: l, s => (octets_Put.f 100 z n).bind fun t => if t.2 = 0 then (if s.size + t.1.size ≤ 9223372036854775807 then format_bF l (s ++ t.1) else none) else some ⟨#[]⟩
def format_bitI (b : Bool) : Int := if b = true then 1 else 0
def format_Bytes.f (a0_0 : Int) (a0_1 : Int) (a0_2 : Bool) (a0_3 : Bool) (a0_4 : Int) (a0_5 : Int) (a0_6 : Int) (a0_7 : Int) (a0_8 : Int) (a0_9 : Int) : Option ByteArray := format_bF (format_tens a0_0 a0_1 a0_4 a0_5 a0_6 a0_7 a0_8 a0_9 (format_bitI a0_2) (format_bitI a0_3)) ⟨#[]⟩
theorem format_bit_q {P : Program} {n : FuncId} {args : Array Value} {v : Value} {W : World} {x : Nat} (h : Calls P n args (W.drewN x) fun e w' => e = .returned v ∧ Drawn0 (W.drewN x) w') : Calls P n args (W.drewN x) fun e w'' => e = .returned v ∧ ∃ n, w'' = W.drewN n :=
 h.mono fun e w'' ⟨he, nd, hw⟩ => ⟨he, x + nd, by rw [hw, World.drewN_drewN]⟩
set_option maxHeartbeats 4000000 in
set_option maxRecDepth 100000 in
theorem format_Bytes.calls (a0_0 : Int) (a0_1 : Int) (a0_2 : Bool) (a0_3 : Bool) (a0_4 : Int) (a0_5 : Int) (a0_6 : Int) (a0_7 : Int) (a0_8 : Int) (a0_9 : Int) (r : ByteArray) (w : World) (h : format_Bytes.f a0_0 a0_1 a0_2 a0_3 a0_4 a0_5 a0_6 a0_7 a0_8 a0_9 = some r) :
  Calls Try.prog 40 #[.agg #[.int .i64 a0_0, .int .i64 a0_1, .bool a0_2, .bool a0_3, .int .i64 a0_4, .int .i64 a0_5, .int .i64 a0_6, .int .i64 a0_7, .int .i64 a0_8, .int .i64 a0_9]] w fun e w' => e = .returned (.string r) ∧ Below w.heap.size w w' := by
 have HW := Lib.hid (below_alloc (Below.refl w.heap.size w) (.cells #[.int .i64 a0_0, .int .i64 a0_1, .bool a0_2, .bool a0_3, .int .i64 a0_4, .int .i64 a0_5, .int .i64 a0_6, .int .i64 a0_7, .int .i64 a0_8, .int .i64 a0_9] 24))
 have hc2 : format_bit.f a0_2 = some (format_bitI a0_2) := by cases a0_2 <;> rfl
 have hc3 : format_bit.f a0_3 = some (format_bitI a0_3) := by cases a0_3 <;> rfl
 obtain ⟨b2, hb2⟩ : ∃ b, format_bitI a0_2 = b := ⟨_, rfl⟩
 obtain ⟨b3, hb3⟩ : ∃ b, format_bitI a0_3 = b := ⟨_, rfl⟩
 unfold format_Bytes.f at h
 rw [hb2] at h hc2
 rw [hb3] at h hc3
 have H := Lib.hid h
 have HC2 := Lib.hid hc2
 have HC3 := Lib.hid hc3
 clear h hc2 hc3 hb2 hb3
 go_enter Try.func40, Try.ntmps40
 go_wp2_with fail
 have HQ2 := Lib.hid (fun (W : World) (x : Nat) => format_bit_q (format_bit.calls a0_2 b2 (W.drewN x) HC2.out))
 have HQ3 := Lib.hid (fun (W : World) (x : Nat) => format_bit_q (format_bit.calls a0_3 b3 (W.drewN x) HC3.out))
 go_quiet ((first | (go_at_call_of 77 (Value.bool a0_2); exact HQ2.out _ _) | (go_at_call_of 77 (Value.bool a0_3); exact HQ3.out _ _)))
 go_wp2_with fail
 go_loopw [3, 41] (fun v i wr => ∃ (k : Nat) (x : ByteArray), k ≤ 10 ∧ i = .int .i64 k ∧ v = .string x ∧ Hid (format_bF ((format_tens a0_0 a0_1 a0_4 a0_5 a0_6 a0_7 a0_8 a0_9 b2 b3).drop k) x = some r) ∧ Hid (Below w.heap.size w wr)) (fun _ i _ => 10 - (intOf i).toNat)
 case atStart => exact ⟨0, _, by omega, rfl, rfl, H, Lib.hid (pw_below_drewN HW.out _)⟩
 case round =>
  obtain ⟨k, x, hk, rfl, rfl, HO, HY⟩ := hrel
  by_cases hk3 : k < 10
  ·have hix := fun wx => format_index10 a0_0 a0_1 a0_4 a0_5 a0_6 a0_7 a0_8 a0_9 b2 b3 k hk3 wx
   have ho := HO.out
   rw [format_tens_at a0_0 a0_1 a0_4 a0_5 a0_6 a0_7 a0_8 a0_9 b2 b3 k hk3] at ho
   obtain ⟨m, hm⟩ : ∃ m, (format_ten a0_0 a0_1 a0_4 a0_5 a0_6 a0_7 a0_8 a0_9 b2 b3 k).1 = m := ⟨_, rfl⟩
   obtain ⟨s, hs⟩ : ∃ s, (format_ten a0_0 a0_1 a0_4 a0_5 a0_6 a0_7 a0_8 a0_9 b2 b3 k).2 = s := ⟨_, rfl⟩
   simp only [hm, hs] at hix
   rw [hm, hs] at ho
   clear hm hs HO
   unfold format_bF at ho
   cases hq : octets_Put.f 100 m s with
   | none => rw [hq] at ho; cases ho
   | some q =>
   obtain ⟨q1, q2⟩ := q
   rw [hq] at ho
   simp only [Option.bind_some] at ho
   have HQ := Lib.hid hq
   have HB4 := Lib.hid (fun w4 (hb : Below (wr.alloc (.cells #[.int .i64 m, .int .i64 s] 131)).heap.size (wr.alloc (.cells #[.int .i64 m, .int .i64 s] 131)) w4) => HY.out.trans (Below.mono ((below_alloc (Below.refl wr.heap.size wr) _).trans (Below.mono hb (by simp))) HY.out.size))
   clear hq HQ2 HQ3
   by_cases h0 : q2 = 0
   ·rw [if_pos h0] at ho
    by_cases h1 : x.size + q1.size ≤ 9223372036854775807
    ·rw [if_pos h1] at ho
     have HN := Lib.hid ho
     subst h0
     clear ho
     go_wp2_with fail
     refine (octets_Put.calls 100 m s q1 0 _ HQ.out).mono ?_
     rintro e w4 ⟨rfl, hb⟩
     have HB5 := Lib.hid (HB4.out _ hb)
     clear hb hix
     go_wp2_with fail
     go_roundw
     case rel => exact ⟨k + 1, _, by omega, by go_num, rfl, HN, HB5⟩
     case measure => simp [intOf]; omega
    ·rw [if_neg h1] at ho; cases ho
   ·rw [if_neg h0] at ho
    have HN := Lib.hid (Option.some.inj ho)
    have hb0 : (q2 == 0) = false := by simpa using h0
    have hb1 : (q2 != 0) = true := by simpa using h0
    clear ho h0
    go_wp2_with fail
    refine (octets_Put.calls 100 m s q1 q2 _ HQ.out).mono ?_
    rintro e w4 ⟨rfl, hb⟩
    have HB5 := Lib.hid (HB4.out _ hb)
    clear hb hix
    go_wp2_with fail
    go_ret
    exact ⟨by rw [← HN.out]; rfl, HB5.out⟩
  ·obtain rfl : k = 10 := by omega
   have ho : (if x.size + 3 ≤ 9223372036854775807 then some (x ++ ⟨#[0, 0, 0]⟩) else none) = some r := HO.out
   by_cases h1 : x.size + 3 ≤ 9223372036854775807
   ·rw [if_pos h1] at ho
    have HN := Lib.hid (Option.some.inj ho)
    have h2 : x.size + (⟨#[0, 0, 0]⟩ : ByteArray).size ≤ 9223372036854775807 := h1
    clear ho HO HQ2 HQ3
    go_wp2_with fail
    go_ret
    exact ⟨by rw [← HN.out]; rfl, HY.out⟩
   ·rw [if_neg h1] at ho; cases ho

end Go.Proofs.Ytpackckoblpbfaa.X
