/- What each Go function that these laws use answers: as a Lean function, with the proof that the machine's call comes to it. Written by a program of this session (xprint.py). -/
import Derived.Test.YtclikkhkhoicfaaXx0
import Derived.Test.YtclikkhkhoicfaaXx10
import Derived.Test.YtclikkhkhoicfaaXx12
namespace Go.Proofs.Ytclikkhkhoicfaa.X
open Go.RowKit Go.Proofs.YtclikkhkhoicfaaW.PrintWords Go.Proofs.YtclikkhkhoicfaaW.PrintLast Go.Proofs.YtclikkhkhoicfaaW.PrintMore
attribute [local go_sem] max2_int min2_int max_two min_two max_three min_three max_four min_four   -- for this text's walks alone
set_option linter.unusedVariables false
set_option linter.unusedSimpArgs false

/-! ### format_Bytes: function 28 -/
/-- The ten pieces. -/
def format_tens (a0_0 : Int) (a0_1 : Int) (a0_4 : Int) (a0_5 : Int) (a0_6 : Int) (a0_7 : Int) (a0_8 : Int) (a0_9 : Int) (b2 b3 : Int) : List (Int × Int) := [(1, a0_0), (1, a0_1), (1, b2), (1, b3), (2, a0_4), (2, a0_5), (2, a0_6), (1, a0_7), (1, a0_8), (1, a0_9)]
def format_ten (a0_0 : Int) (a0_1 : Int) (a0_4 : Int) (a0_5 : Int) (a0_6 : Int) (a0_7 : Int) (a0_8 : Int) (a0_9 : Int) (b2 b3 : Int) : Nat → Int × Int
  | 0 => (1, a0_0) | 1 => (1, a0_1) | 2 => (1, b2) | 3 => (1, b3) | 4 => (2, a0_4) | 5 => (2, a0_5) | 6 => (2, a0_6) | 7 => (1, a0_7) | 8 => (1, a0_8) | _ => (1, a0_9)
theorem format_tens_at (a0_0 : Int) (a0_1 : Int) (a0_4 : Int) (a0_5 : Int) (a0_6 : Int) (a0_7 : Int) (a0_8 : Int) (a0_9 : Int) (b2 b3 : Int) (k : Nat) (hk : k < 10) : (format_tens a0_0 a0_1 a0_4 a0_5 a0_6 a0_7 a0_8 a0_9 b2 b3).drop k = ((format_ten a0_0 a0_1 a0_4 a0_5 a0_6 a0_7 a0_8 a0_9 b2 b3 k).1, (format_ten a0_0 a0_1 a0_4 a0_5 a0_6 a0_7 a0_8 a0_9 b2 b3 k).2) :: (format_tens a0_0 a0_1 a0_4 a0_5 a0_6 a0_7 a0_8 a0_9 b2 b3).drop (k + 1) := by
  rcases (show k = 0 ∨ k = 1 ∨ k = 2 ∨ k = 3 ∨ k = 4 ∨ k = 5 ∨ k = 6 ∨ k = 7 ∨ k = 8 ∨ k = 9 by omega) with rfl | rfl | rfl | rfl | rfl | rfl | rfl | rfl | rfl | rfl <;> rfl
theorem format_index10 (a0_0 : Int) (a0_1 : Int) (a0_4 : Int) (a0_5 : Int) (a0_6 : Int) (a0_7 : Int) (a0_8 : Int) (a0_9 : Int) (b2 b3 : Int) (k : Nat) (hk : k < 10) (w : World) : (Instr.index 92 (.agg #[.int .i64 1, .int .i64 a0_0, .int .i64 1, .int .i64 a0_1, .int .i64 1, .int .i64 b2, .int .i64 1, .int .i64 b3, .int .i64 2, .int .i64 a0_4, .int .i64 2, .int .i64 a0_5, .int .i64 2, .int .i64 a0_6, .int .i64 1, .int .i64 a0_7, .int .i64 1, .int .i64 a0_8, .int .i64 1, .int .i64 a0_9]) (.int .i64 (k : Int))).run Try.prog w = .ok (.agg #[.int .i64 (format_ten a0_0 a0_1 a0_4 a0_5 a0_6 a0_7 a0_8 a0_9 b2 b3 k).1, .int .i64 (format_ten a0_0 a0_1 a0_4 a0_5 a0_6 a0_7 a0_8 a0_9 b2 b3 k).2]) w := by
  rcases (show k = 0 ∨ k = 1 ∨ k = 2 ∨ k = 3 ∨ k = 4 ∨ k = 5 ∨ k = 6 ∨ k = 7 ∨ k = 8 ∨ k = 9 by omega) with rfl | rfl | rfl | rfl | rfl | rfl | rfl | rfl | rfl | rfl <;> kernel_rfl
def format_bF : List (Int × Int) → ByteArray → Option ByteArray
  | [], s => if s.size + 3 ≤ 9223372036854775807 then some (s ++ ⟨#[0, 0, 0]⟩) else none
  | (z, n) :: l, s => (octets_Put.f 100 z n).bind fun t => if t.2 = 0 then (if s.size + t.1.size ≤ 9223372036854775807 then format_bF l (s ++ t.1) else none) else some ⟨#[]⟩
def format_bitI (b : Bool) : Int := if b = true then 1 else 0
def format_Bytes.f (a0_0 : Int) (a0_1 : Int) (a0_2 : Bool) (a0_3 : Bool) (a0_4 : Int) (a0_5 : Int) (a0_6 : Int) (a0_7 : Int) (a0_8 : Int) (a0_9 : Int) : Option ByteArray := format_bF (format_tens a0_0 a0_1 a0_4 a0_5 a0_6 a0_7 a0_8 a0_9 (format_bitI a0_2) (format_bitI a0_3)) ⟨#[]⟩
theorem format_bit_q {P : Program} {n : FuncId} {args : Array Value} {v : Value} {W : World} {x : Nat} (h : Calls P n args (W.drewN x) fun e w' => e = .returned v ∧ Drawn0 (W.drewN x) w') : Calls P n args (W.drewN x) fun e w'' => e = .returned v ∧ ∃ n, w'' = W.drewN n :=
  h.mono fun e w'' ⟨he, nd, hw⟩ => ⟨he, x + nd, by rw [hw, World.drewN_drewN]⟩
set_option maxHeartbeats 4000000 in
set_option maxRecDepth 100000 in
theorem format_Bytes.calls (a0_0 : Int) (a0_1 : Int) (a0_2 : Bool) (a0_3 : Bool) (a0_4 : Int) (a0_5 : Int) (a0_6 : Int) (a0_7 : Int) (a0_8 : Int) (a0_9 : Int) (r : ByteArray) (w : World) (h : format_Bytes.f a0_0 a0_1 a0_2 a0_3 a0_4 a0_5 a0_6 a0_7 a0_8 a0_9 = some r) :
    Calls Try.prog 28 #[.agg #[.int .i64 a0_0, .int .i64 a0_1, .bool a0_2, .bool a0_3, .int .i64 a0_4, .int .i64 a0_5, .int .i64 a0_6, .int .i64 a0_7, .int .i64 a0_8, .int .i64 a0_9]] w fun e w' => e = .returned (.string r) ∧ Below w.heap.size w w' := by
  have HW := Lib.hid (below_alloc (Below.refl w.heap.size w) (.cells #[.int .i64 a0_0, .int .i64 a0_1, .bool a0_2, .bool a0_3, .int .i64 a0_4, .int .i64 a0_5, .int .i64 a0_6, .int .i64 a0_7, .int .i64 a0_8, .int .i64 a0_9] 27))
  have hc2 : format_bit.f a0_2 = some (format_bitI a0_2) := by cases a0_2 <;> rfl
  have hc3 : format_bit.f a0_3 = some (format_bitI a0_3) := by cases a0_3 <;> rfl
  obtain ⟨b2, hb2⟩ : ∃ b, format_bitI a0_2 = b := ⟨_, rfl⟩
  obtain ⟨b3, hb3⟩ : ∃ b, format_bitI a0_3 = b := ⟨_, rfl⟩
  unfold format_Bytes.f at h
  rw [hb2] at h hc2
  rw [hb3] at h hc3
  have H := Lib.hid h
  have HC2 := Lib.hid hc2
  have HC3 := Lib.hid hc3
  clear h hc2 hc3 hb2 hb3
  go_enter Try.func28, Try.ntmps28
  go_wp2_with fail
  have HQ2 := Lib.hid (fun (W : World) (x : Nat) => format_bit_q (format_bit.calls a0_2 b2 (W.drewN x) HC2.out))
  have HQ3 := Lib.hid (fun (W : World) (x : Nat) => format_bit_q (format_bit.calls a0_3 b3 (W.drewN x) HC3.out))
  go_quiet ((first | (go_at_call_of 51 (Value.bool a0_2); exact HQ2.out _ _) | (go_at_call_of 51 (Value.bool a0_3); exact HQ3.out _ _)))
  go_wp2_with fail
  go_loopw [3, 41] (fun v i wr => ∃ (k : Nat) (x : ByteArray), k ≤ 10 ∧ i = .int .i64 k ∧ v = .string x ∧ Hid (format_bF ((format_tens a0_0 a0_1 a0_4 a0_5 a0_6 a0_7 a0_8 a0_9 b2 b3).drop k) x = some r) ∧ Hid (Below w.heap.size w wr)) (fun _ i _ => 10 - (intOf i).toNat)
  case atStart => exact ⟨0, _, by omega, rfl, rfl, H, Lib.hid (pw_below_drewN HW.out _)⟩
  case round =>
    obtain ⟨k, x, hk, rfl, rfl, HO, HY⟩ := hrel
    by_cases hk3 : k < 10
    · have hix := fun wx => format_index10 a0_0 a0_1 a0_4 a0_5 a0_6 a0_7 a0_8 a0_9 b2 b3 k hk3 wx
      have ho := HO.out
      rw [format_tens_at a0_0 a0_1 a0_4 a0_5 a0_6 a0_7 a0_8 a0_9 b2 b3 k hk3] at ho
      obtain ⟨m, hm⟩ : ∃ m, (format_ten a0_0 a0_1 a0_4 a0_5 a0_6 a0_7 a0_8 a0_9 b2 b3 k).1 = m := ⟨_, rfl⟩
      obtain ⟨s, hs⟩ : ∃ s, (format_ten a0_0 a0_1 a0_4 a0_5 a0_6 a0_7 a0_8 a0_9 b2 b3 k).2 = s := ⟨_, rfl⟩
      simp only [hm, hs] at hix
      rw [hm, hs] at ho
      clear hm hs HO
      unfold format_bF at ho
      cases hq : octets_Put.f 100 m s with
      | none => rw [hq] at ho; cases ho
      | some q =>
      obtain ⟨q1, q2⟩ := q
      rw [hq] at ho
      simp only [Option.bind_some] at ho
      have HQ := Lib.hid hq
      have HB4 := Lib.hid (fun w4 (hb : Below (wr.alloc (.cells #[.int .i64 m, .int .i64 s] 91)).heap.size (wr.alloc (.cells #[.int .i64 m, .int .i64 s] 91)) w4) => HY.out.trans (Below.mono ((below_alloc (Below.refl wr.heap.size wr) _).trans (Below.mono hb (by simp))) HY.out.size))
      clear hq HQ2 HQ3
      by_cases h0 : q2 = 0
      · rw [if_pos h0] at ho
        by_cases h1 : x.size + q1.size ≤ 9223372036854775807
        · rw [if_pos h1] at ho
          have HN := Lib.hid ho
          subst h0
          clear ho
          go_wp2_with fail
          refine (octets_Put.calls 100 m s q1 0 _ HQ.out).mono ?_
          rintro e w4 ⟨rfl, hb⟩
          have HB5 := Lib.hid (HB4.out _ hb)
          clear hb hix
          go_wp2_with fail
          go_roundw
          case rel => exact ⟨k + 1, _, by omega, by go_num, rfl, HN, HB5⟩
          case measure => simp [intOf]; omega
        · rw [if_neg h1] at ho; cases ho
      · rw [if_neg h0] at ho
        have HN := Lib.hid (Option.some.inj ho)
        have hb0 : (q2 == 0) = false := by simpa using h0
        have hb1 : (q2 != 0) = true := by simpa using h0
        clear ho h0
        go_wp2_with fail
        refine (octets_Put.calls 100 m s q1 q2 _ HQ.out).mono ?_
        rintro e w4 ⟨rfl, hb⟩
        have HB5 := Lib.hid (HB4.out _ hb)
        clear hb hix
        go_wp2_with fail
        go_ret
        exact ⟨by rw [← HN.out]; rfl, HB5.out⟩
    · obtain rfl : k = 10 := by omega
      have ho : (if x.size + 3 ≤ 9223372036854775807 then some (x ++ ⟨#[0, 0, 0]⟩) else none) = some r := HO.out
      by_cases h1 : x.size + 3 ≤ 9223372036854775807
      · rw [if_pos h1] at ho
        have HN := Lib.hid (Option.some.inj ho)
        have h2 : x.size + (⟨#[0, 0, 0]⟩ : ByteArray).size ≤ 9223372036854775807 := h1
        clear ho HO HQ2 HQ3
        go_wp2_with fail
        go_ret
        exact ⟨by rw [← HN.out]; rfl, HY.out⟩
      · rw [if_neg h1] at ho; cases ho

/-! ### clientmsg_writer_signed: function 29 -/
set_option maxHeartbeats 2000000 in
set_option maxRecDepth 100000 in
theorem signed_c (B b : Nat) (acc : List UInt8) (bad : Bool) (row : Option Nat) (n : Int) (st : List UInt8 × Bool) (W : World) (h : Wr B b acc bad row W) (hB : B ≤ W.heap.size) (hr : wS (acc, bad) n = some st) :
    Calls Try.prog 29 #[.pointer (some ⟨b, 0, none⟩), .int .i64 n] W fun en W' => en = .returned (.tuple #[]) ∧ ∃ row', Wr B b st.1 st.2 row' W' ∧ (row' = row ∨ ∃ k, row' = some k ∧ W.heap.size ≤ k) ∧ Below B W W' ∧ Kept W W' (fun k => k = b ∨ row = some k) := by
  unfold wS at hr
  obtain ⟨s, h1, hr⟩ := Option.bind_eq_some_iff.1 hr
  by_cases hsz : acc.length + s.size ≤ 140737488351232
  case neg => rw [if_neg hsz] at hr; cases hr
  rw [if_pos hsz] at hr
  obtain rfl := Option.some.inj hr
  have H1 := Lib.hid h1
  have HSZ := Lib.hid hsz
  have HW := Lib.hid h
  clear h1 hr hsz h
  obtain ⟨z, hz⟩ : ∃ z, s.toList.isEmpty = z := ⟨_, rfl⟩
  have hz2 : (s.toList == ([] : List UInt8)) = z := by rw [← hz]; cases s.toList <;> rfl
  have HZ := Lib.hid hz
  rw [show ((acc, bad).2 || s.toList.isEmpty) = (bad || z) from by rw [hz]]
  clear hz
  have main : ∀ v, (bad || z) = v → Calls Try.prog 29 #[.pointer (some ⟨b, 0, none⟩), .int .i64 n] W fun en W' => en = .returned (.tuple #[]) ∧ ∃ row', Wr B b (acc ++ s.data.toList) v row' W' ∧ (row' = row ∨ ∃ k, row' = some k ∧ W.heap.size ≤ k) ∧ Below B W W' ∧ Kept W W' (fun k => k = b ∨ row = some k) := fun v hv => by
    have tail : ∀ W1, Wr B b acc bad row W1 → Below W.heap.size W W1 → Calls Try.prog 27 #[.pointer (some ⟨b, 0, none⟩), .string s] (W1.setCell ⟨b, 2, none⟩ (.bool v)) fun en W' => en = .returned (.tuple #[.int .i64 s.size, .nilIface]) ∧ ∃ row', Wr B b (acc ++ s.data.toList) v row' W' ∧ (row' = row ∨ ∃ k, row' = some k ∧ W.heap.size ≤ k) ∧ Below B W W' ∧ Kept W W' (fun k => k = b ∨ row = some k) := fun W1 hw hb => by
      refine (write_c B b acc v row s _ (hw.set_ v) (by have := HSZ.out; omega) (by have := hb.size; simp; omega)).mono ?_
      rintro en W2 ⟨rfl, row1, k1, k2, k3, k4⟩
      refine ⟨rfl, row1, k1, k2.imp id (fun ⟨q, e1, e2⟩ => ⟨q, e1, by have := hb.size; simp at e2; omega⟩), (((hb.mono hB).setCell (p := ⟨b, 2, none⟩) HW.out.le _)).trans k3, ?_⟩
      exact ((Kept.of_below hb (fun k => k = b ∨ row = some k)).then_ (Kept.setCell (S := fun k => k = b ∨ row = some k) (p := ⟨b, 2, none⟩) (Kept.refl W1 _) (.inl (.inl rfl)) _) (fun k hk => .inl hk)).then_ k4 (fun k hk => .inl hk)
    have HT := Lib.hid tail
    clear tail
    cases bad with
    | true =>
      obtain rfl : true = v := hv
      clear hz2
      go_enter Try.func29, Try.ntmps29
      go_wp2_with fail
      refine (octets_Signed.calls 100 n s _ H1.out).mono ?_
      rintro en W1 ⟨rfl, hb⟩
      have hw1 := HW.out.below hb
      have c2 := hw1.cell
      have f2 := hw1.frozen
      have HB := Lib.hid hb
      have HW1 := Lib.hid hw1
      clear hb hw1
      go_wp2_with fail
      refine (HT.out W1 HW1.out HB.out).mono ?_
      rintro en W2 ⟨rfl, hx⟩
      have HX := Lib.hid hx
      clear hx
      go_wp2_with fail
      go_end0
      exact ⟨rfl, HX.out⟩
    | false =>
      have hv : z = v := hv
      subst hv
      go_enter Try.func29, Try.ntmps29
      go_wp2_with fail
      refine (octets_Signed.calls 100 n s _ H1.out).mono ?_
      rintro en W1 ⟨rfl, hb⟩
      have hw1 := HW.out.below hb
      have c2 := hw1.cell
      have f2 := hw1.frozen
      have HB := Lib.hid hb
      have HW1 := Lib.hid hw1
      clear hb hw1
      go_wp2_with fail
      refine (HT.out W1 HW1.out HB.out).mono ?_
      rintro en W2 ⟨rfl, hx⟩
      have HX := Lib.hid hx
      clear hx
      go_wp2_with fail
      go_end0
      exact ⟨rfl, HX.out⟩
  exact main _ rfl

/-! ### clientmsg_bit: function 30 -/
def clientmsg_bit.f (a0 : Bool) : Option (Int) := if a0 = true then (some 1) else (some 0)
set_option maxHeartbeats 8000000 in
set_option maxRecDepth 100000 in
theorem clientmsg_bit.calls (a0 : Bool) (r : Int) (w : World) (h : clientmsg_bit.f a0 = some r) :
    Calls Try.prog 30 #[.bool a0] w fun e w' => e = .returned (.int .i64 r) ∧ Drawn0 w w' := by
  have H : (if a0 = true then (some 1) else (some 0)) = some r := h
  clear h
  by_cases c2 : a0 = true
  · subst c2
    have H1 : (some 1) = some r := by rw [if_pos rfl] at H; exact H
    clear H
    have H := H1
    clear H1
    obtain rfl := Option.some.inj H
    go_enter Try.func30, Try.ntmps30
    go_wp2
    go_ret
    exact ⟨by first | rfl | (simp; done) | (simp [*]; done), by repeat (first | exact Drawn0.refl _ | apply Drawn0.step)⟩
  · replace c2 := Bool.eq_false_iff.mpr c2
    subst c2
    have H1 : (some 0) = some r := by rw [if_neg (show ¬ (false = true) by decide)] at H; exact H
    clear H
    have H := H1
    clear H1
    obtain rfl := Option.some.inj H
    go_enter Try.func30, Try.ntmps30
    go_wp2
    go_ret
    exact ⟨by first | rfl | (simp; done) | (simp [*]; done), by repeat (first | exact Drawn0.refl _ | apply Drawn0.step)⟩

end Go.Proofs.Ytclikkhkhoicfaa.X
