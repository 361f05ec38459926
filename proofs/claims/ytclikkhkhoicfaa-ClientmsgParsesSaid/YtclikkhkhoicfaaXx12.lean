/- What each Go function that these laws use answers: as a Lean function, with the proof that the machine's call comes to it. Written by a program of this session (xprint.py). -/
import Derived.Test.YtclikkhkhoicfaaXx0
import Derived.Test.YtclikkhkhoicfaaXx6
import Derived.Test.YtclikkhkhoicfaaXx10
import Derived.Test.YtclikkhkhoicfaaXx11
namespace Go.Proofs.Ytclikkhkhoicfaa.X
open Go.RowKit Go.Proofs.YtclikkhkhoicfaaW.PrintWords Go.Proofs.YtclikkhkhoicfaaW.PrintLast Go.Proofs.YtclikkhkhoicfaaW.PrintMore
attribute [local go_sem] max2_int min2_int max_two min_two max_three min_three max_four min_four   -- for this text's walks alone
set_option linter.unusedVariables false
set_option linter.unusedSimpArgs false

/-! ### octets_Put: function 49 -/
def octets_Put.f (k : Nat) (a0 : Int) (a1 : Int) : Option (ByteArray × Int) := (octets_Little.f k a0 a1).bind fun bt128 => ((octets_turned.f bt128.1).bind fun t130 => (some (t130, bt128.2)))
theorem octets_Put.mono : ∀ a0 a1 k, LeO (octets_Put.f k a0 a1) (octets_Put.f (k + 1) a0 a1) := by
  intro a0 a1 k
  unfold octets_Put.f
  repeat' first
      | (with_reducible exact octets_Little.mono _ _ _)
      | (with_reducible exact LeO.refl _)
      | (with_reducible exact LeO.none _)
      | (with_reducible refine LeO.ite ?_ ?_)
      | (with_reducible refine LeO.bind ?_ (fun _ => ?_))
      | exact octets_Little.mono _ _ _
      | exact LeO.none _
      | refine LeO.ite ?_ ?_
      | refine LeO.bind ?_ (fun _ => ?_)
set_option maxHeartbeats 8000000 in
set_option maxRecDepth 100000 in
theorem octets_Put.calls (k : Nat) (a0 : Int) (a1 : Int) (r1 : ByteArray) (r2 : Int) (w : World) (h : octets_Put.f k a0 a1 = some (r1, r2)) :
    Calls Try.prog 49 #[.int .i64 a0, .int .i64 a1] w fun e w' => e = .returned (.tuple #[.string r1, .int .i64 r2]) ∧ Below w.heap.size w w' := by
  have HB := Aside0.mk (Below.refl w.heap.size w)
  have H : ((octets_Little.f k a0 a1).bind fun bt128 => ((octets_turned.f bt128.1).bind fun t130 => (some (t130, bt128.2)))) = some (r1, r2) := h
  clear h
  replace H := Option.bind_eq_some_iff.mp H
  obtain ⟨⟨t128, t129⟩, A30, H⟩ := H
  replace H : ((octets_turned.f t128).bind fun t130 => (some (t130, t129))) = some (r1, r2) := H
  have A3 := Aside0.mk A30
  clear A30
  replace H := Option.bind_eq_some_iff.mp H
  obtain ⟨t130, A40, H⟩ := H
  replace H : (some (t130, t129)) = some (r1, r2) := H
  have A4 := Aside0.mk A40
  clear A40
  simp only [Option.some.injEq, Prod.mk.injEq] at H
  obtain ⟨rfl, rfl⟩ := H
  go_enter Try.func49, Try.ntmps49
  go_wp2_with (first | ((with_reducible refine gate_callee (f := 65) rfl ?_); refine goesL_ (some 11) rfl rfl Try.func65 (by kernel_rfl) rfl #[.int .i64 a0, .int .i64 a1] rfl (by (try simp only [List.map_toArray, List.map_cons, List.map_nil]); first | done | rfl | (simp only [List.length_drop, List.length_take]; rfl)) ?_; (with_reducible refine (octets_Little.calls k a0 a1 t128 t129 _ A3.out).mono ?_); rintro e w5 ⟨rfl, hb⟩; refine ⟨_, rfl, ?_⟩; have n0_ := Aside0.mk (below_step (by repeat (first | (with_reducible first | exact HB.out | apply below_alloc | apply pw_below_drewN | apply below_drew1) | exact HB.out)) hb); clear HB; have HB := n0_; clear n0_; (try clear hb); (try clear hb2); (try clear hk); (try clear hi)) | ((with_reducible refine gate_callee (f := 33) rfl ?_); refine goesL_ (some 15) rfl rfl Try.func33 (by kernel_rfl) rfl #[.string t128] rfl (by (try simp only [List.map_toArray, List.map_cons, List.map_nil]); first | done | rfl | (simp only [List.length_drop, List.length_take]; rfl)) ?_; (with_reducible refine (octets_turned.calls t128 t130 _ A4.out).mono ?_); rintro e w6 ⟨rfl, hb⟩; refine ⟨_, rfl, ?_⟩; have n0_ := Aside0.mk (below_step (by repeat (first | (with_reducible first | exact HB.out | apply below_alloc | apply pw_below_drewN | apply below_drew1) | exact HB.out)) hb); clear HB; have HB := n0_; clear n0_; (try clear hb); (try clear hb2); (try clear hk); (try clear hi)))
  go_ret2
  exact ⟨by first | rfl | (simp [errW_none, errW_some] <;> rfl) | (simp [*, errW_none, errW_some] <;> rfl), by repeat (first | (with_reducible first | exact HB.out | apply below_alloc | apply pw_below_drewN | apply below_drew1) | exact HB.out)⟩

/-! ### octets_Signed: function 52 -/
def octets_Signed.f (k : Nat) (a0 : Int) : Option (ByteArray) := if (wrap64 (wrap32 (a0))) = a0 then ((octets_Put.f k 4 ((a0) % 4294967296)).bind fun bt131 => (some bt131.1)) else (some (⟨#[]⟩ : ByteArray))
theorem octets_Signed.mono : ∀ a0 k, LeO (octets_Signed.f k a0) (octets_Signed.f (k + 1) a0) := by
  intro a0 k
  unfold octets_Signed.f
  repeat' first
      | (with_reducible exact octets_Put.mono _ _ _)
      | (with_reducible exact LeO.refl _)
      | (with_reducible exact LeO.none _)
      | (with_reducible refine LeO.ite ?_ ?_)
      | (with_reducible refine LeO.bind ?_ (fun _ => ?_))
      | exact octets_Put.mono _ _ _
      | exact LeO.none _
      | refine LeO.ite ?_ ?_
      | refine LeO.bind ?_ (fun _ => ?_)
set_option maxHeartbeats 8000000 in
set_option maxRecDepth 100000 in
theorem octets_Signed.calls (k : Nat) (a0 : Int) (r : ByteArray) (w : World) (h : octets_Signed.f k a0 = some r) :
    Calls Try.prog 52 #[.int .i64 a0] w fun e w' => e = .returned (.string r) ∧ Below w.heap.size w w' := by
  have HB := Aside0.mk (Below.refl w.heap.size w)
  have H : (if (wrap64 (wrap32 (a0))) = a0 then ((octets_Put.f k 4 ((a0) % 4294967296)).bind fun bt131 => (some bt131.1)) else (some (⟨#[]⟩ : ByteArray))) = some r := h
  clear h
  by_cases c2 : (wrap64 (wrap32 (a0))) = a0
  · rw [if_pos c2] at H
    have c2b0 : ((wrap64 (wrap32 (a0))) == a0) = true := beq_iff_eq.mpr c2
    have c2b1 : ((wrap64 (wrap32 (a0))) != a0) = false := bne_eq_false_iff_eq.mpr c2
    clear c2
    replace H := Option.bind_eq_some_iff.mp H
    obtain ⟨⟨t131, t132⟩, A30, H⟩ := H
    replace H : (some t131) = some r := H
    have A3 := Aside0.mk A30
    clear A30
    obtain rfl := Option.some.inj H
    go_enter Try.func52, Try.ntmps52
    go_wp2_with (first | ((with_reducible refine gate_callee (f := 49) rfl ?_); refine goesL_ (some 14) rfl rfl Try.func49 (by kernel_rfl) rfl #[.int .i64 4, .int .i64 ((a0) % 4294967296)] rfl (by (try simp only [List.map_toArray, List.map_cons, List.map_nil]); first | done | rfl | (simp only [List.length_drop, List.length_take]; rfl)) ?_; (with_reducible refine (octets_Put.calls k 4 ((a0) % 4294967296) t131 t132 _ A3.out).mono ?_); rintro e w4 ⟨rfl, hb⟩; refine ⟨_, rfl, ?_⟩; have n0_ := Aside0.mk (below_step (by repeat (first | (with_reducible first | exact HB.out | apply below_alloc | apply pw_below_drewN | apply below_drew1) | exact HB.out)) hb); clear HB; have HB := n0_; clear n0_; (try clear hb); (try clear hb2); (try clear hk); (try clear hi)))
    go_ret
    exact ⟨by first | rfl | (simp [errW_none, errW_some] <;> rfl) | (simp [*, errW_none, errW_some] <;> rfl), by repeat (first | (with_reducible first | exact HB.out | apply below_alloc | apply pw_below_drewN | apply below_drew1) | exact HB.out)⟩
  · rw [if_neg c2] at H
    have c2b0 : ((wrap64 (wrap32 (a0))) == a0) = false := beq_eq_false_iff_ne.mpr c2
    have c2b1 : ((wrap64 (wrap32 (a0))) != a0) = true := bne_iff_ne.mpr c2
    obtain rfl := Option.some.inj H
    go_enter Try.func52, Try.ntmps52
    go_wp2
    go_ret
    exact ⟨by first | rfl | (simp [errW_none, errW_some] <;> rfl) | (simp [*, errW_none, errW_some] <;> rfl), by repeat (first | (with_reducible first | exact HB.out | apply below_alloc | apply pw_below_drewN | apply below_drew1) | exact HB.out)⟩

/-! ### clientmsg_writer_ints: function 26 -/
/-- A number is written. -/
def wI (st : List UInt8 × Bool) (size n : Int) : Option (List UInt8 × Bool) := (octets_Put.f 100 size n).bind fun t => if st.1.length + t.1.size ≤ 140737488351232 then some (st.1 ++ t.1.data.toList, st.2 || t.2 != 0) else none
def wInts (size : Int) : List Int → List UInt8 × Bool → Option (List UInt8 × Bool)
  | [], st => some st
  | n :: l, st => (wI st size n).bind fun st' => wInts size l st'
theorem kept_row {W W1 W2 : World} {b : Nat} {row row1 : Option Nat} (h : Kept W W1 (fun k => k = b ∨ row = some k)) (hr : row1 = row ∨ ∃ k, row1 = some k ∧ W.heap.size ≤ k) (k : Kept W1 W2 (fun k => k = b ∨ row1 = some k)) : Kept W W2 (fun k => k = b ∨ row = some k) :=
  h.then_ k (fun q hq => hq.elim (fun e => .inl (.inl e)) (fun e => hr.elim (fun hr => .inl (.inr (hr.symm.trans e))) (fun ⟨z, hz, hzl⟩ => .inr (by rw [hz] at e; injection e with e; omega))))
theorem row_step {W W1 : World} {row row1 row2 : Option Nat} (hs : W.heap.size ≤ W1.heap.size) (hr : row1 = row ∨ ∃ k, row1 = some k ∧ W.heap.size ≤ k) (hr2 : row2 = row1 ∨ ∃ k, row2 = some k ∧ W1.heap.size ≤ k) : row2 = row ∨ ∃ k, row2 = some k ∧ W.heap.size ≤ k := by
  rcases hr2 with h | ⟨k, h, hk⟩
  · rw [h]; exact hr
  · exact .inr ⟨k, h, by omega⟩
set_option maxHeartbeats 4000000 in
set_option maxRecDepth 100000 in
theorem ints_c (B b : Nat) (acc : List UInt8) (bad : Bool) (row : Option Nat) (size : Int) (A : Option Addr) (c : Nat) (xs : List Int) (st : List UInt8 × Bool) (W : World) (h : Wr B b acc bad row W) (hB : B ≤ W.heap.size) (hlen : xs.length ≤ 1000000000000)
    (hx : ∀ W', Kept W W' (fun k => k = b ∨ row = some k) → ∀ i, i < xs.length → ∃ ad, A = some ad ∧ W'.cell? (ad.add i) = some (.int .i64 (xs.getD i 0))) (hr : wInts size xs (acc, bad) = some st) :
    Calls Try.prog 26 #[.pointer (some ⟨b, 0, none⟩), .int .i64 size, .slice A xs.length c] W fun en W' => en = .returned (.tuple #[]) ∧ ∃ row', Wr B b st.1 st.2 row' W' ∧ (row' = row ∨ ∃ k, row' = some k ∧ W.heap.size ≤ k) ∧ Below B W W' ∧ Kept W W' (fun k => k = b ∨ row = some k) := by
  have HX := Lib.hid hx
  have HR := Lib.hid hr
  have HW := Lib.hid h
  clear hx hr h
  go_enter Try.func26, Try.ntmps26
  go_wp2
  go_loopw [10] (fun i wr => ∃ (k : Nat) (a1 : List UInt8) (e1 : Bool) (row1 : Option Nat), k ≤ xs.length ∧ i = .int .i64 k ∧ Hid (Wr B b a1 e1 row1 wr) ∧ Hid (wInts size (xs.drop k) (a1, e1) = some st) ∧ Hid (row1 = row ∨ ∃ k, row1 = some k ∧ W.heap.size ≤ k) ∧ Hid (Below B W wr) ∧ Hid (Kept W wr (fun k => k = b ∨ row = some k))) (fun i _ => xs.length - (intOf i).toNat)
  case atStart => exact ⟨0, acc, bad, row, Nat.zero_le _, rfl, HW, HR, Lib.hid (.inl rfl), Lib.hid (Below.refl _ _), Lib.hid (Kept.refl _ _)⟩
  case round =>
    obtain ⟨k, a1, e1, row1, hk, rfl, HW1, HR1, HRW, HB1, HK1⟩ := hrel
    by_cases hlt : k < xs.length
    · obtain ⟨ad, rfl, hxc⟩ := HX.out wr HK1.out k hlt
      have hd := HR1.out
      rw [List.drop_eq_getElem_cons hlt] at hd
      have hxe : xs.getD k 0 = xs[k] := by simp [hlt]
      rw [hxe] at hxc
      generalize xs[k] = x at *
      simp only [wInts] at hd
      obtain ⟨⟨a2, e2⟩, hwI, hd⟩ := Option.bind_eq_some_iff.1 hd
      unfold wI at hwI
      obtain ⟨⟨t1, t2⟩, hput, hwI⟩ := Option.bind_eq_some_iff.1 hwI
      dsimp only at hwI
      by_cases hsz : a1.length + t1.size ≤ 140737488351232
      case neg => rw [if_neg hsz] at hwI; cases hwI
      rw [if_pos hsz] at hwI
      obtain ⟨rfl, rfl⟩ := Prod.mk.inj (Option.some.inj hwI)
      have HPUT := Lib.hid hput
      have HSZ := Lib.hid hsz
      have HD := Lib.hid hd
      clear hput hsz hd hwI hxe
      go_wp2_with fail
      refine (octets_Put.calls 100 size x t1 t2 _ HPUT.out).mono ?_
      rintro en w1 ⟨rfl, hb1⟩
      have HB2 := Lib.hid hb1
      clear hb1 hxc
      go_wp2_with fail
      refine (text_c B b a1 e1 row1 t1 t2 w1 (HW1.out.below HB2.out) (by have := HSZ.out; omega) (by have h1 := HB1.out.size; have h2 := HB2.out.size; omega)).mono ?_
      rintro en w3 ⟨rfl, row3, h3, hr3, hb3, hk3⟩
      have HW3 := Lib.hid h3
      have HR3 := Lib.hid hr3
      have HB4 := Lib.hid hb3
      have HK3 := Lib.hid hk3
      clear h3 hr3 hb3 hk3
      go_wp2_with fail
      go_roundw
      case rel =>
        have hB1 : B ≤ wr.heap.size := Nat.le_trans hB HB1.out.size
        have q1 : Kept wr w3 (fun k => k = b ∨ row1 = some k) := (Kept.of_below HB2.out _).then_ HK3.out (fun k hk => .inl hk)
        have hs3 : wr.heap.size ≤ w1.heap.size := HB2.out.size
        exact ⟨k + 1, a1 ++ t1.data.toList, (e1 || t2 != 0), row3, by omega, by go_num, HW3, HD, Lib.hid (row_step HK1.out.1 HRW.out (HR3.out.imp id (fun ⟨z, h1, h2⟩ => ⟨z, h1, by omega⟩))), Lib.hid (HB1.out.trans ((HB2.out.mono hB1).trans HB4.out)), Lib.hid (kept_row HK1.out HRW.out q1)⟩
      case measure => simp [intOf]; omega
    · have hd := HR1.out
      rw [List.drop_eq_nil_of_le (by omega)] at hd
      simp only [wInts] at hd
      obtain rfl := Option.some.inj hd
      clear hd
      go_wp2
      go_end0
      exact ⟨rfl, row1, HW1.out, HRW.out, HB1.out, HK1.out⟩
/-- A number with a sign is written. -/
def wS (st : List UInt8 × Bool) (n : Int) : Option (List UInt8 × Bool) := (octets_Signed.f 100 n).bind fun s => if st.1.length + s.size ≤ 140737488351232 then some (st.1 ++ s.data.toList, st.2 || s.toList.isEmpty) else none

/-! ### format_bit: function 51 -/
def format_bit.f (a0 : Bool) : Option (Int) := if a0 = true then (some 1) else (some 0)
set_option maxHeartbeats 8000000 in
set_option maxRecDepth 100000 in
theorem format_bit.calls (a0 : Bool) (r : Int) (w : World) (h : format_bit.f a0 = some r) :
    Calls Try.prog 51 #[.bool a0] w fun e w' => e = .returned (.int .i64 r) ∧ Drawn0 w w' := by
  have H : (if a0 = true then (some 1) else (some 0)) = some r := h
  clear h
  by_cases c2 : a0 = true
  · subst c2
    have H1 : (some 1) = some r := by rw [if_pos rfl] at H; exact H
    clear H
    have H := H1
    clear H1
    obtain rfl := Option.some.inj H
    go_enter Try.func51, Try.ntmps51
    go_wp2
    go_ret
    exact ⟨by first | rfl | (simp; done) | (simp [*]; done), by repeat (first | exact Drawn0.refl _ | apply Drawn0.step)⟩
  · replace c2 := Bool.eq_false_iff.mpr c2
    subst c2
    have H1 : (some 0) = some r := by rw [if_neg (show ¬ (false = true) by decide)] at H; exact H
    clear H
    have H := H1
    clear H1
    obtain rfl := Option.some.inj H
    go_enter Try.func51, Try.ntmps51
    go_wp2
    go_ret
    exact ⟨by first | rfl | (simp; done) | (simp [*]; done), by repeat (first | exact Drawn0.refl _ | apply Drawn0.step)⟩

end Go.Proofs.Ytclikkhkhoicfaa.X
