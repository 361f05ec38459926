/- What each Go function that these laws use answers: as a Lean function, with the proof that the machine's call comes to it. Written by a program of this session (xprint.py). -/
import Derived.Test.YtpackckoblpbfaaXx0
import Derived.Test.YtpackckoblpbfaaXx3
import Derived.Test.YtpackckoblpbfaaXx5
import Derived.Test.YtpackckoblpbfaaXx6
namespace Go.Proofs.Ytpackckoblpbfaa.X
open Go.RowKit Go.Proofs.YtpackckoblpbfaaW.PrintWords Go.Proofs.YtpackckoblpbfaaW.PrintLast Go.Proofs.YtpackckoblpbfaaW.PrintMore
attribute [local go_sem] max2_int min2_int max_two min_two max_three min_three max_four min_four   -- for this text's walks alone
set_option linter.unusedVariables false
set_option linter.unusedSimpArgs false

/-! ### octets_Put: function 71 -/
def octets_Put.f (k : Nat) (a0 : Int) (a1 : Int) : Option (ByteArray × Int) := (octets_Little.f k a0 a1).bind fun bt110 => ((octets_turned.f bt110.1).bind fun t112 => (some (t112, bt110.2)))
theorem octets_Put.mono : ∀ a0 a1 k, LeO (octets_Put.f k a0 a1) (octets_Put.f (k + 1) a0 a1) := by
 intro a0 a1 k
 unfold octets_Put.f
 repeat' first
   | (with_reducible exact octets_Little.mono _ _ _)
   | (with_reducible exact LeO.refl _)
   | (with_reducible exact LeO.none _)
   | (with_reducible refine LeO.ite ?_ ?_)
   | (with_reducible refine LeO.bind ?_ (fun _ => ?_))
   | exact octets_Little.mono _ _ _
   | exact LeO.none _
   | refine LeO.ite ?_ ?_
   | refine LeO.bind ?_ (fun _ => ?_)
set_option maxHeartbeats 8000000 in
set_option maxRecDepth 100000 in
theorem octets_Put.calls (k : Nat) (a0 : Int) (a1 : Int) (r1 : ByteArray) (r2 : Int) (w : World) (h : octets_Put.f k a0 a1 = some (r1, r2)) :
  Calls Try.prog 71 #[.int .i64 a0, .int .i64 a1] w fun e w' => e = .returned (.tuple #[.string r1, .int .i64 r2]) ∧ Below w.heap.size w w' := by
 have HB := Aside0.mk (Below.refl w.heap.size w)
 have H : ((octets_Little.f k a0 a1).bind fun bt110 => ((octets_turned.f bt110.1).bind fun t112 => (some (t112, bt110.2)))) = some (r1, r2) := h
 clear h
 replace H := Option.bind_eq_some_iff.mp H
 obtain ⟨⟨t110, t111⟩, A30, H⟩ := H
 replace H : ((octets_turned.f t110).bind fun t112 => (some (t112, t111))) = some (r1, r2) := H
 have A3 := Aside0.mk A30
 clear A30
 replace H := Option.bind_eq_some_iff.mp H
 obtain ⟨t112, A40, H⟩ := H
 replace H : (some (t112, t111)) = some (r1, r2) := H
 have A4 := Aside0.mk A40
 clear A40
 simp only [Option.some.injEq, Prod.mk.injEq] at H
 obtain ⟨rfl, rfl⟩ := H
 go_enter Try.func71, Try.ntmps71
 go_wp2_with (first | ((with_reducible refine gate_callee (f := 90) rfl ?_); refine goesL_ (some 11) rfl rfl Try.func90 (by kernel_rfl) rfl #[.int .i64 a0, .int .i64 a1] rfl (by (try simp only [List.map_toArray, List.map_cons, List.map_nil]); first | done | rfl | (simp only [List.length_drop, List.length_take]; rfl)) ?_; (with_reducible refine (octets_Little.calls k a0 a1 t110 t111 _ A3.out).mono ?_); rintro e w5 ⟨rfl, hb⟩; refine ⟨_, rfl, ?_⟩; have n0_ := Aside0.mk (below_step (by repeat (first | (with_reducible first | exact HB.out | apply below_alloc | apply pw_below_drewN | apply below_drew1) | exact HB.out)) hb); clear HB; have HB := n0_; clear n0_; (try clear hb); (try clear hb2); (try clear hk); (try clear hi)) | ((with_reducible refine gate_callee (f := 84) rfl ?_); refine goesL_ (some 15) rfl rfl Try.func84 (by kernel_rfl) rfl #[.string t110] rfl (by (try simp only [List.map_toArray, List.map_cons, List.map_nil]); first | done | rfl | (simp only [List.length_drop, List.length_take]; rfl)) ?_; (with_reducible refine (octets_turned.calls t110 t112 _ A4.out).mono ?_); rintro e w6 ⟨rfl, hb⟩; refine ⟨_, rfl, ?_⟩; have n0_ := Aside0.mk (below_step (by repeat (first | (with_reducible first | exact HB.out | apply below_alloc | apply pw_below_drewN | apply below_drew1) | exact HB.out)) hb); clear HB; have HB := n0_; clear n0_; (try clear hb); (try clear hb2); (try clear hk); (try clear hi)))
 go_ret2
 exact ⟨by first | rfl | (simp [errW_none, errW_some] <;> rfl) | (simp [*, errW_none, errW_some] <;> rfl), by repeat (first | (with_reducible first | exact HB.out | apply below_alloc | apply pw_below_drewN | apply below_drew1) | exact HB.out)⟩

/-! ### servermsg_writer_ints: function 34 -/
/-- A number is written. -/
def wI (st : List UInt8 × Int) (size n : Int) : Option (List UInt8 × Int) := (octets_Put.f 100 size n).bind fun t => if st.1.length + t.1.size ≤ 140737488351232 then some (st.1 ++ t.1.data.toList, errW1 (t.2 == 0) 1 st.2) else none
def wInts (size : Int) : List Int → List UInt8 × Int → Option (List UInt8 × Int)
 | [], st => some st
 | n :: l, st => (wI st size n).bind fun st' => wInts size l st'
theorem kept_row {W W1 W2 : World} {b : Nat} {row row1 : Option Nat} (h : Kept W W1 (fun k => k = b ∨ row = some k)) (hr : row1 = row ∨ ∃ k, row1 = some k ∧ W.heap.size ≤ k) (k : Kept W1 W2 (fun k => k = b ∨ row1 = some k)) : Kept W W2 (fun k => k = b ∨ row = some k) :=
 h.then_ k (fun q hq => hq.elim (fun e => .inl (.inl e)) (fun e => hr.elim (fun hr => .inl (.inr (hr.symm.trans e))) (fun ⟨z, hz, hzl⟩ => .inr (by rw [hz] at e; injection e with e; omega))))
theorem row_step {W W1 : World} {row row1 row2 : Option Nat} (hs : W.heap.size ≤ W1.heap.size) (hr : row1 = row ∨ ∃ k, row1 = some k ∧ W.heap.size ≤ k) (hr2 : row2 = row1 ∨ ∃ k, row2 = some k ∧ W1.heap.size ≤ k) : row2 = row ∨ ∃ k, row2 = some k ∧ W.heap.size ≤ k := by
 rcases hr2 with h | ⟨k, h, hk⟩
 ·rw [h]; exact hr
 ·exact .inr ⟨k, h, by omega⟩
set_option maxHeartbeats 4000000 in
set_option maxRecDepth 100000 in
theorem ints_c (B b : Nat) (acc : List UInt8) (err : Int) (row : Option Nat) (size : Int) (A : Option Addr) (c : Nat) (xs : List Int) (st : List UInt8 × Int) (W : World) (h : Wr B b acc err row W) (hB : B ≤ W.heap.size) (hlen : xs.length ≤ 1000000000000)
  (hx : ∀ W', Kept W W' (fun k => k = b ∨ row = some k) → ∀ i, i < xs.length → ∃ ad, A = some ad ∧ W'.cell? (ad.add i) = some (.int .i64 (xs.getD i 0))) (hr : wInts size xs (acc, err) = some st) :
  Calls Try.prog 34 #[.pointer (some ⟨b, 0, none⟩), .int .i64 size, .slice A xs.length c] W fun en W' => en = .returned (.tuple #[]) ∧ ∃ row', Wr B b st.1 st.2 row' W' ∧ (row' = row ∨ ∃ k, row' = some k ∧ W.heap.size ≤ k) ∧ Below B W W' ∧ Kept W W' (fun k => k = b ∨ row = some k) := by
 have HX := Lib.hid hx
 have HR := Lib.hid hr
 have HW := Lib.hid h
 clear hx hr h
 go_enter Try.func34, Try.ntmps34
 go_wp2
 go_loopw [12] (fun i wr => ∃ (k : Nat) (a1 : List UInt8) (e1 : Int) (row1 : Option Nat), k ≤ xs.length ∧ i = .int .i64 k ∧ Hid (Wr B b a1 e1 row1 wr) ∧ Hid (wInts size (xs.drop k) (a1, e1) = some st) ∧ Hid (row1 = row ∨ ∃ k, row1 = some k ∧ W.heap.size ≤ k) ∧ Hid (Below B W wr) ∧ Hid (Kept W wr (fun k => k = b ∨ row = some k))) (fun i _ => xs.length - (intOf i).toNat)
 case atStart => exact ⟨0, acc, err, row, Nat.zero_le _, rfl, HW, HR, Lib.hid (.inl rfl), Lib.hid (Below.refl _ _), Lib.hid (Kept.refl _ _)⟩
 case round =>
  obtain ⟨k, a1, e1, row1, hk, rfl, HW1, HR1, HRW, HB1, HK1⟩ := hrel
  by_cases hlt : k < xs.length
  ·obtain ⟨ad, rfl, hxc⟩ := HX.out wr HK1.out k hlt
   have hd := HR1.out
   rw [List.drop_eq_getElem_cons hlt] at hd
   have hxe : xs.getD k 0 = xs[k] := by simp [hlt]
   rw [hxe] at hxc
   generalize xs[k] = x at *
   simp only [wInts] at hd
   obtain ⟨⟨a2, e2⟩, hwI, hd⟩ := Option.bind_eq_some_iff.1 hd
   unfold wI at hwI
   obtain ⟨⟨t1, t2⟩, hput, hwI⟩ := Option.bind_eq_some_iff.1 hwI
   dsimp only at hwI
   by_cases hsz : a1.length + t1.size ≤ 140737488351232
   case neg => rw [if_neg hsz] at hwI; cases hwI
   rw [if_pos hsz] at hwI
   obtain ⟨rfl, rfl⟩ := Prod.mk.inj (Option.some.inj hwI)
   have HPUT := Lib.hid hput
   have HSZ := Lib.hid hsz
   have HD := Lib.hid hd
   obtain ⟨ok, hok⟩ : ∃ ok, (t2 == 0) = ok := ⟨_, rfl⟩
   have HOK := Lib.hid hok
   clear hput hsz hd hwI hxe
   go_wp2_with fail
   refine (octets_Put.calls 100 size x t1 t2 _ HPUT.out).mono ?_
   rintro en w1 ⟨rfl, hb1⟩
   have HB2 := Lib.hid hb1
   clear hb1 hxc
   go_wp2_with fail
   refine (check_c B b a1 e1 row1 ok 1 w1 (HW1.out.below HB2.out)).mono ?_
   rintro en w2 ⟨rfl, h2, hb2, hk2⟩
   have HW2 := Lib.hid h2
   have HB3 := Lib.hid hb2
   have HK2 := Lib.hid hk2
   clear h2 hb2 hk2 hok
   go_wp2_with fail
   refine (write_c B b a1 _ row1 t1 w2 HW2.out (by have := HSZ.out; omega) (by have h1 := HB1.out.size; have h2 := HB2.out.size; have h3 := HB3.out.size; omega)).mono ?_
   rintro en w3 ⟨rfl, row3, h3, hr3, hb3, hk3⟩
   have HW3 := Lib.hid h3
   have HR3 := Lib.hid hr3
   have HB4 := Lib.hid hb3
   have HK3 := Lib.hid hk3
   clear h3 hr3 hb3 hk3
   go_wp2_with fail
   go_roundw
   case rel =>
    have hB1 : B ≤ wr.heap.size := Nat.le_trans hB HB1.out.size
    have q1 : Kept wr w3 (fun k => k = b ∨ row1 = some k) := ((Kept.of_below HB2.out _).then_ HK2.out (fun k hk => .inl (.inl hk))).then_ HK3.out (fun k hk => .inl hk)
    have hs3 : wr.heap.size ≤ w2.heap.size := Nat.le_trans HB2.out.size HK2.out.1
    refine ⟨k + 1, a1 ++ t1.data.toList, errW1 (t2 == 0) 1 e1, row3, by omega, by go_num, ?_, HD, Lib.hid (row_step HK1.out.1 HRW.out (row_step (Nat.le_refl _) (.inl rfl) (HR3.out.imp id (fun ⟨z, h1, h2⟩ => ⟨z, h1, by omega⟩)))), Lib.hid (HB1.out.trans ((HB2.out.mono hB1).trans (HB3.out.trans HB4.out))), Lib.hid (kept_row HK1.out HRW.out q1)⟩
    rw [HOK.out]
    exact HW3
   case measure => simp [intOf]; omega
  ·have hd := HR1.out
   rw [List.drop_eq_nil_of_le (by omega)] at hd
   simp only [wInts] at hd
   obtain rfl := Option.some.inj hd
   clear hd
   go_wp2
   go_end0
   exact ⟨rfl, row1, HW1.out, HRW.out, HB1.out, HK1.out⟩

/-! ### servermsg_writer_done: function 35 -/
/-- What was written, if all fits. -/
def doneS (st : List UInt8 × Int) : ByteArray × Int := if st.2 ≠ 0 then (⟨#[]⟩, st.2) else (⟨st.1.toArray⟩, 0)
set_option maxHeartbeats 2000000 in
set_option maxRecDepth 100000 in
theorem done_c (B b : Nat) (st : List UInt8 × Int) (row : Option Nat) (W : World) (h : Wr B b st.1 st.2 row W) (hB : B ≤ W.heap.size) :
  Calls Try.prog 35 #[.pointer (some ⟨b, 0, none⟩)] W fun en W' => en = .returned (.tuple #[.string (doneS st).1, .int .i64 (doneS st).2]) ∧ Below B W W' := by
 obtain ⟨acc, err⟩ := st
 have c2 := h.cell
 have HW := Lib.hid h
 unfold doneS
 by_cases he : err = 0
 ·subst he
  rw [if_neg (by simp)]
  obtain ⟨cs, h1, h2, h3⟩ := h
  have H1 := Lib.hid h1
  clear h1 h2 h3
  dsimp only at c2
  go_enter Try.func35, Try.ntmps35
  go_wp2_with fail
  refine (BL.String_c _ B b 0 cs row acc W H1.out hB).mono ?_
  rintro en w1 ⟨rfl, hb⟩
  go_wp2_with fail
  go_ret2
  exact ⟨rfl, hb⟩
 ·rw [if_pos he]
  have hb : (err != 0) = true := by simpa using he
  dsimp only at c2
  clear h he
  go_enter Try.func35, Try.ntmps35
  go_wp2
  go_quiet (fail)
  go_wp2
  go_ret2
  exact ⟨rfl, pw_below_drewN (Below.refl _ _) _⟩

/-! ### servermsg_writer_text: function 41 -/
/-- A text with its length is written. -/
def wText (st : List UInt8 × Int) (s : ByteArray) : Option (List UInt8 × Int) := (wInts 4 [(s.size : Int)] (st.1, errW1 (decide ((s.size : Int) ≤ 4096)) 1 st.2)).bind fun st1 => if st1.1.length + s.size ≤ 140737488351232 then some (st1.1 ++ s.data.toList, st1.2) else none
/-- A row of numbers that was just made. -/
theorem fresh_row {W : World} {b : Nat} {row : Option Nat} (xs : List Int) (hx0 : 0 < xs.length) (hb : b < W.heap.size) (hr : ∀ k, row = some k → k < W.heap.size) (cs : Array Value) (hc : cs.toList = xs.map (Value.int .i64)) : ∀ W', Kept (W.alloc (.cells cs 3)) W' (fun k => k = b ∨ row = some k) → ∀ i, i < xs.length → ∃ ad, some (⟨W.heap.size, 0, none⟩ : Addr) = some ad ∧ W'.cell? (ad.add i) = some (.int .i64 (xs.getD i 0)) := by
 intro W' hk i hi
 refine ⟨_, rfl, ?_⟩
 have h1 : W'.heap[W.heap.size]? = some (.cells cs 3 (0, 0)) := (hk.2 W.heap.size (by simp) (fun h => h.elim (fun e => by omega) (fun e => by have := hr _ e; omega))).trans (heap_alloc_new W _)
 have h2 : (⟨W.heap.size, 0, none⟩ : Addr).add i = ⟨W.heap.size, i, none⟩ := by unfold Addr.add; split <;> simp_all
 have h3 : cs[i]? = some (.int .i64 (xs.getD i 0)) := by
  rw [← Array.getElem?_toList, hc, List.getElem?_map, List.getElem?_eq_getElem hi]; simp [hi]
 rw [h2, World.cell?, h1]
 simpa using h3
set_option maxHeartbeats 2000000 in
set_option maxRecDepth 100000 in
theorem text_c (B b : Nat) (acc : List UInt8) (err : Int) (row : Option Nat) (s : ByteArray) (st : List UInt8 × Int) (W : World) (h : Wr B b acc err row W) (hB : B ≤ W.heap.size) (hs : s.size ≤ 140737488351232) (hr : wText (acc, err) s = some st) :
  Calls Try.prog 41 #[.pointer (some ⟨b, 0, none⟩), .string s] W fun en W' => en = .returned (.tuple #[]) ∧ ∃ row', Wr B b st.1 st.2 row' W' ∧ (row' = row ∨ ∃ k, row' = some k ∧ W.heap.size ≤ k) ∧ Below B W W' ∧ Kept W W' (fun k => k = b ∨ row = some k) := by
 unfold wText at hr
 obtain ⟨⟨a1, e1⟩, h1, hr⟩ := Option.bind_eq_some_iff.1 hr
 dsimp only at hr
 by_cases hsz : a1.length + s.size ≤ 140737488351232
 case neg => rw [if_neg hsz] at hr; cases hr
 rw [if_pos hsz] at hr
 obtain rfl := Option.some.inj hr
 obtain ⟨ok, hok⟩ : ∃ ok, decide ((s.size : Int) ≤ 4096) = ok := ⟨_, rfl⟩
 rw [hok] at h1
 dsimp only at h1
 have H1 := Lib.hid h1
 have HSZ := Lib.hid hsz
 have HW := Lib.hid h
 clear hr h1 hsz h
 go_enter Try.func41, Try.ntmps41
 go_wp2_with fail
 refine (check_c B b acc err row ok 1 W HW.out).mono ?_
 rintro en w1 ⟨rfl, h2, hb2, hk2⟩
 have HW2 := Lib.hid h2
 have HB2 := Lib.hid hb2
 have HK2 := Lib.hid hk2
 clear h2 hb2 hk2 hok
 go_wp2_with fail
 refine (ints_c B b acc _ row 4 (some ⟨w1.heap.size, 0, none⟩) 1 [(s.size : Int)] (a1, e1) _ (HW2.out.below (below_alloc (Below.refl _ _) _)) (by have := HB2.out.size; simp; omega) (by simp) (fresh_row [(s.size : Int)] (by simp) HW2.out.lt (fun k hk => (HW2.out.row_ k hk).2) _ rfl) H1.out).mono ?_
 rintro en w3 ⟨rfl, row3, h3, hr3, hb3, hk3⟩
 have HW3 := Lib.hid h3
 have HR3 := Lib.hid hr3
 have HB3 := Lib.hid hb3
 have HK3 := Lib.hid hk3
 clear h3 hr3 hb3 hk3
 go_wp2_with fail
 refine (write_c B b a1 e1 row3 s w3 HW3.out (by have := HSZ.out; omega) (by have h1 := HB2.out.size; have h2 := HB3.out.size; simp at h2; omega)).mono ?_
 rintro en w4 ⟨rfl, row4, h4, hr4, hb4, hk4⟩
 have HW4 := Lib.hid h4
 have HR4 := Lib.hid hr4
 have HB4 := Lib.hid hb4
 have HK4 := Lib.hid hk4
 clear h4 hr4 hb4 hk4
 go_wp2_with fail
 go_end0
 have hs1 := HK2.out.1
 have hs3 := HK3.out.1
 simp at hs3
 have q0 : Kept W (w1.alloc (.cells #[.int .i64 (s.size : Int)] 3)) (fun k => k = b ∨ row = some k) := (HK2.out.mono (fun k hk => .inl hk)).alloc _
 have q1 : Kept W w3 (fun k => k = b ∨ row = some k) := q0.then_ HK3.out (fun k hk => .inl hk)
 have r3 : row3 = row ∨ ∃ k, row3 = some k ∧ W.heap.size ≤ k := HR3.out.imp id (fun ⟨z, h1, h2⟩ => ⟨z, h1, by simp at h2; omega⟩)
 refine ⟨rfl, row4, HW4.out, row_step (W1 := w3) (by omega) r3 HR4.out, HB2.out.trans ((below_alloc (Below.refl w1.heap.size w1) _).mono (Nat.le_trans hB hs1) |>.trans (HB3.out.trans HB4.out)), kept_row q1 r3 HK4.out⟩

end Go.Proofs.Ytpackckoblpbfaa.X
