/- What each Go function that these laws use answers: as a Lean function, with the proof that the machine's call comes to it. Written by a program of this session (xprint.py). -/
import Derived.Test.YtkmfhfejogjnfaaXx0
import Derived.Test.YtkmfhfejogjnfaaXx5
import Derived.Test.YtkmfhfejogjnfaaXx6
import Derived.Test.YtkmfhfejogjnfaaXx9
import Derived.Test.YtkmfhfejogjnfaaXx10
import Derived.Test.YtkmfhfejogjnfaaXx14
import Derived.Test.YtkmfhfejogjnfaaXx16
namespace Go.Proofs.Ytkmfhfejogjnfaa.X
open Go.RowKit Go.Proofs.YtkmfhfejogjnfaaW.PrintWords Go.Proofs.YtkmfhfejogjnfaaW.PrintLast Go.Proofs.YtkmfhfejogjnfaaW.PrintMore
attribute [local go_sem] max2_int min2_int max_two min_two max_three min_three max_four min_four   -- for this text's walks alone
set_option linter.unusedVariables false
set_option linter.unusedSimpArgs false

/-! ### rre_Encode: function 14 -/
/-- The texts of the pieces, one behind the other. -/
def encL (put num : Int → Option ByteArray) : List S31 → List UInt8 → Option (List UInt8)
  | [], acc => some acc
  | p :: l, acc => (put p.f0).bind fun s => (num p.f1.f0).bind fun x => (num p.f1.f1).bind fun y => (num p.f1.f2).bind fun u => (num p.f1.f3).bind fun h =>
      if (acc ++ s.data.toList ++ x.data.toList ++ y.data.toList ++ u.data.toList ++ h.data.toList).length ≤ 1000000000 then encL put num l (acc ++ s.data.toList ++ x.data.toList ++ y.data.toList ++ u.data.toList ++ h.data.toList) else none
theorem encL_mono (p1 n1 p2 n2 : Int → Option ByteArray) (hp : ∀ v, LeO (p1 v) (p2 v)) (hn : ∀ v, LeO (n1 v) (n2 v)) : ∀ (l : List S31) (acc : List UInt8), LeO (encL p1 n1 l acc) (encL p2 n2 l acc)
  | [], acc => LeO.refl _
  | p :: l, acc => by
    unfold encL
    exact LeO.bind (hp _) fun _ => LeO.bind (hn _) fun _ => LeO.bind (hn _) fun _ => LeO.bind (hn _) fun _ => LeO.bind (hn _) fun _ => LeO.ite (encL_mono p1 n1 p2 n2 hp hn l _) (LeO.refl _)
theorem encL_step {put num : Int → Option ByteArray} {p : S31} {l : List S31} {acc r : List UInt8} (h : encL put num (p :: l) acc = some r) : ∃ s x y u h : ByteArray, put p.f0 = some s ∧ num p.f1.f0 = some x ∧ num p.f1.f1 = some y ∧ num p.f1.f2 = some u ∧ num p.f1.f3 = some h ∧ (acc ++ s.data.toList ++ x.data.toList ++ y.data.toList ++ u.data.toList ++ h.data.toList).length ≤ 1000000000 ∧ encL put num l (acc ++ s.data.toList ++ x.data.toList ++ y.data.toList ++ u.data.toList ++ h.data.toList) = some r := by
  unfold encL at h
  obtain ⟨s, h1, h⟩ := Option.bind_eq_some_iff.1 h
  obtain ⟨x, h2, h⟩ := Option.bind_eq_some_iff.1 h
  obtain ⟨y, h3, h⟩ := Option.bind_eq_some_iff.1 h
  obtain ⟨u, h4, h⟩ := Option.bind_eq_some_iff.1 h
  obtain ⟨v, h5, h⟩ := Option.bind_eq_some_iff.1 h
  split at h
  · rename_i hl
    exact ⟨s, x, y, u, v, h1, h2, h3, h4, h5, hl, h⟩
  · cases h
def rre_Encode.g (k : Nat) (a0_0 : Int) (a0_1 : Int) (a0_2 : Bool) (a0_3 : Bool) (a0_4 : Int) (a0_5 : Int) (a0_6 : Int) (a0_7 : Int) (a0_8 : Int) (a0_9 : Int) (a1 a2 : Int) (l3 : List Int) : Option (ByteArray × Int) := (plain_Values.f a0_0 a0_1 a0_2 a0_3 a0_4 a0_5 a0_6 a0_7 a0_8 a0_9 l3).bind fun vs => (rre_Ground.f vs).bind fun g => (rre_Pieces.f a1 a2 vs g).bind fun l => (rre_number.f k 4 (l.length : Int)).bind fun s0 => (format_Put.f k a0_0 a0_1 a0_2 a0_3 a0_4 a0_5 a0_6 a0_7 a0_8 a0_9 g).bind fun s1 =>
    if s0.size + s1.size ≤ 1000000000 ∧ l.length ≤ 1000000 then (encL (fun v => format_Put.f k a0_0 a0_1 a0_2 a0_3 a0_4 a0_5 a0_6 a0_7 a0_8 a0_9 v) (fun v => rre_number.f k 2 v) l (s0.data.toList ++ s1.data.toList)).bind fun r => some (⟨r.toArray⟩, 0) else none
def rre_Encode.f (k : Nat) (a0_0 : Int) (a0_1 : Int) (a0_2 : Bool) (a0_3 : Bool) (a0_4 : Int) (a0_5 : Int) (a0_6 : Int) (a0_7 : Int) (a0_8 : Int) (a0_9 : Int) (a1 a2 : Int) (l3 : List Int) : Option (ByteArray × Int) := (plain_Fits.f a0_0 a0_1 a0_2 a0_3 a0_4 a0_5 a0_6 a0_7 a0_8 a0_9 a1 a2).bind fun t =>
  if (t && decide ((l3.length : Int) = wrap64 (a1 * a2))) = true then rre_Encode.g k a0_0 a0_1 a0_2 a0_3 a0_4 a0_5 a0_6 a0_7 a0_8 a0_9 a1 a2 l3 else some (⟨#[]⟩, 1)
theorem rre_Encode.mono : ∀ a0 a1 a2 a3 a4 a5 a6 a7 a8 a9 a10 a11 a12 k, LeO (rre_Encode.f k a0 a1 a2 a3 a4 a5 a6 a7 a8 a9 a10 a11 a12) (rre_Encode.f (k + 1) a0 a1 a2 a3 a4 a5 a6 a7 a8 a9 a10 a11 a12) := by
  intro a0 a1 a2 a3 a4 a5 a6 a7 a8 a9 a10 a11 a12 k
  unfold rre_Encode.f
  refine LeO.bind (LeO.refl _) fun _ => LeO.ite ?_ (LeO.refl _)
  unfold rre_Encode.g
  exact LeO.bind (LeO.refl _) fun _ => LeO.bind (LeO.refl _) fun _ => LeO.bind (LeO.refl _) fun _ => LeO.bind (rre_number.mono _ _ _) fun _ => LeO.bind (format_Put.mono _ _ _ _ _ _ _ _ _ _ _ _) fun _ => LeO.ite (LeO.bind (encL_mono _ _ _ _ (fun _ => format_Put.mono _ _ _ _ _ _ _ _ _ _ _ _) (fun _ => rre_number.mono _ _ _) _ _) fun _ => LeO.refl _) (LeO.refl _)
/-- The builder in block b, with what it holds; all that is older than it is as it was. -/
def EW (wb : World) (b : Nat) (acc : List UInt8) (W : World) : Prop := (∃ cs row, BL.BAt 65 b b 0 cs row (Lib.byteCells acc) W ∧ cs.length = 2) ∧ Below b wb W
section
variable {wb W w' : World} {b : Nat} {acc : List UInt8}
theorem EW.step (h : EW wb b acc W) (hb : Below W.heap.size W w') : EW wb b acc w' := by
  obtain ⟨⟨cs, row, h1, h2⟩, h3⟩ := h
  exact ⟨⟨cs, row, h1.keep (Kept.of_below hb (fun _ => False)) (fun e => e) (fun _ _ e => e), h2⟩, h3.trans (hb.mono (Nat.le_of_lt (blk_lt h1.2.1)))⟩
theorem EW.drewN (h : EW wb b acc W) (n : Nat) : EW wb b acc (W.drewN n) := h.step (pw_below_drewN (Below.refl _ _) n)
theorem EW.lt (h : EW wb b acc W) : b < W.heap.size := by obtain ⟨⟨cs, row, h1, _⟩, _⟩ := h; exact blk_lt h1.2.1
/-- A text is written behind; what is no text is kept. -/
theorem write_c (s : ByteArray) (h : EW wb b acc W) (hl : acc.length + s.size ≤ 1000000000) :
    Calls Try.prog 29 #[.pointer (some ⟨b, 0, none⟩), .string s] W fun e w' => e = .returned (.tuple #[.int .i64 s.size, .nilIface]) ∧ EW wb b (acc ++ s.data.toList) w' ∧
      ∀ (q : Nat) (c : Array Value) (T : Nat), W.heap[q]? = some (.cells c T (0, 0)) → T ≠ 5 → q ≠ b → w'.heap[q]? = some (.cells c T (0, 0)) := by
  obtain ⟨⟨cs, row, h1, h2⟩, h3⟩ := h
  refine (BL.WriteString_c 65 b b 0 cs row (Lib.byteCells acc) s W (by decide) (by rw [h2]; show BL.Lies _ _ _; unfold BL.Lies; kernel_rfl) h1 (by rw [Lib.byteCells_length]; omega) (Nat.le_of_lt (blk_lt h1.2.1))).mono ?_
  rintro e w' ⟨rfl, v, row', g1, g2, g3, g4⟩
  refine ⟨rfl, ⟨⟨_, row', by rw [Lib.byteCells_append, ← Lib.strCells_eq]; exact g1, by simp [h2]⟩, h3.trans g3⟩, fun q c T hq hT hne => ?_⟩
  refine (g4.2 q (blk_lt hq) (fun e => e.elim hne (fun e => ?_))).trans hq
  obtain ⟨_, _, _, u, _, hown, hrow, _⟩ := h1
  obtain ⟨c2, fz, h9⟩ := Lib.ownsRow_kind hown q (hrow.trans e)
  rw [hq] at h9
  injection h9 with h9
  injection h9 with _ h9
  exact hT h9
theorem EW.new (h : W.heap[b]? = some (.cells #[.pointer none, .slice none 0 0] 65 (0, 0))) (hb : Below b wb W) : EW wb b [] W :=
  ⟨⟨[.pointer none, .slice none 0 0], none, ⟨Nat.le_refl _, h, .inl rfl, .slice none 0 0, rfl, World.ownsRow_nil _ _ _ _, rfl, by simp⟩, rfl⟩, hb⟩
end
theorem fits_no (a0_0 : Int) (a0_1 : Int) (a0_2 : Bool) (a0_3 : Bool) (a0_4 : Int) (a0_5 : Int) (a0_6 : Int) (a0_7 : Int) (a0_8 : Int) (a0_9 : Int) (a1 a2 : Int) (A : Option Addr) (c n : Nat) (w : World) (t : Bool) (hf : plain_Fits.f a0_0 a0_1 a0_2 a0_3 a0_4 a0_5 a0_6 a0_7 a0_8 a0_9 a1 a2 = some t) (h : (t && decide ((n : Int) = wrap64 (a1 * a2))) = false) :
    Calls Try.prog 14 #[.agg #[.int .i64 a0_0, .int .i64 a0_1, .bool a0_2, .bool a0_3, .int .i64 a0_4, .int .i64 a0_5, .int .i64 a0_6, .int .i64 a0_7, .int .i64 a0_8, .int .i64 a0_9], .int .i64 a1, .int .i64 a2, .slice A n c] w fun e w' => e = .returned (.tuple #[.string ⟨#[]⟩, .int .i64 1]) ∧ Below w.heap.size w w' := by
  have hb0 : Below w.heap.size w (w.alloc (.cells #[.int .i64 a0_0, .int .i64 a0_1, .bool a0_2, .bool a0_3, .int .i64 a0_4, .int .i64 a0_5, .int .i64 a0_6, .int .i64 a0_7, .int .i64 a0_8, .int .i64 a0_9] 37)) := below_alloc (Below.refl _ _) _
  cases t with
  | false =>
    clear h
    go_enter Try.func14, Try.ntmps14
    go_wp2_with fail
    refine (plain_Fits.calls a0_0 a0_1 a0_2 a0_3 a0_4 a0_5 a0_6 a0_7 a0_8 a0_9 a1 a2 false _ hf).mono ?_; rintro e w1 ⟨rfl, hb⟩
    have HB := Lib.hid (hb0.trans (hb.mono hb0.size)); clear hb hb0 hf
    go_wp2
    go_ret2
    exact ⟨rfl, HB.out⟩
  | true =>
    have hne : (n : Int) ≠ wrap64 (a1 * a2) := by simpa using h
    obtain ⟨M, hM⟩ : ∃ M, wrap64 (a1 * a2) = M := ⟨_, rfl⟩
    rw [hM] at hne
    have d1 : ((n : Int) != M) = true := by simpa using hne
    clear h hne
    go_enter Try.func14, Try.ntmps14
    go_wp2_with fail
    refine (plain_Fits.calls a0_0 a0_1 a0_2 a0_3 a0_4 a0_5 a0_6 a0_7 a0_8 a0_9 a1 a2 true _ hf).mono ?_; rintro e w1 ⟨rfl, hb⟩
    have HB := Lib.hid (hb0.trans (hb.mono hb0.size)); clear hb hb0 hf
    go_wp2
    go_ret2
    exact ⟨rfl, HB.out⟩
set_option maxHeartbeats 16000000 in
set_option maxRecDepth 100000 in
theorem rre_Encode.calls (k : Nat) (a0_0 : Int) (a0_1 : Int) (a0_2 : Bool) (a0_3 : Bool) (a0_4 : Int) (a0_5 : Int) (a0_6 : Int) (a0_7 : Int) (a0_8 : Int) (a0_9 : Int) (a1 : Int) (a2 : Int) (A3 : Option Addr) (c3 : Nat) (l3 : List Int) (r1 : ByteArray) (r2 : Int) (w : World) (hr3 : Kd.C (Kd.int .i64) w A3 l3.length l3) (hc3 : l3.length ≤ c3) (h : rre_Encode.f k a0_0 a0_1 a0_2 a0_3 a0_4 a0_5 a0_6 a0_7 a0_8 a0_9 a1 a2 l3 = some (r1, r2)) :
    Calls Try.prog 14 #[.agg #[.int .i64 a0_0, .int .i64 a0_1, .bool a0_2, .bool a0_3, .int .i64 a0_4, .int .i64 a0_5, .int .i64 a0_6, .int .i64 a0_7, .int .i64 a0_8, .int .i64 a0_9], .int .i64 a1, .int .i64 a2, .slice A3 l3.length c3] w fun e w' => e = .returned (.tuple #[.string r1, .int .i64 r2]) ∧ Below w.heap.size w w' := by
  unfold rre_Encode.f at h
  obtain ⟨t, hf, h⟩ := Option.bind_eq_some_iff.1 h
  by_cases ht : (t && decide ((l3.length : Int) = wrap64 (a1 * a2))) = true
  rotate_left
  · rw [if_neg ht] at h
    obtain ⟨rfl, rfl⟩ := Prod.mk.inj (Option.some.inj h)
    exact fits_no a0_0 a0_1 a0_2 a0_3 a0_4 a0_5 a0_6 a0_7 a0_8 a0_9 a1 a2 A3 c3 _ w t hf (by simpa using ht)
  rw [if_pos ht] at h
  unfold rre_Encode.g at h
  obtain ⟨vs, hvs, h⟩ := Option.bind_eq_some_iff.1 h
  obtain ⟨g, hg, h⟩ := Option.bind_eq_some_iff.1 h
  obtain ⟨ps, hps, h⟩ := Option.bind_eq_some_iff.1 h
  obtain ⟨s0, hs0, h⟩ := Option.bind_eq_some_iff.1 h
  obtain ⟨s1, hs1, h⟩ := Option.bind_eq_some_iff.1 h
  split at h
  rotate_left
  · cases h
  rename_i hsz
  obtain ⟨R, hR, h⟩ := Option.bind_eq_some_iff.1 h
  obtain ⟨rfl, rfl⟩ := Prod.mk.inj (Option.some.inj h)
  rw [Bool.and_eq_true] at ht
  obtain ⟨rfl, ht2⟩ := ht
  have hlen : (l3.length : Int) = wrap64 (a1 * a2) := by simpa using ht2
  obtain ⟨M, hM⟩ : ∃ M, wrap64 (a1 * a2) = M := ⟨_, rfl⟩
  rw [hM] at hlen
  have d1 : ((l3.length : Int) != M) = false := by simpa using hlen
  have hb0 : Below w.heap.size w (w.alloc (.cells #[.int .i64 a0_0, .int .i64 a0_1, .bool a0_2, .bool a0_3, .int .i64 a0_4, .int .i64 a0_5, .int .i64 a0_6, .int .i64 a0_7, .int .i64 a0_8, .int .i64 a0_9] 37)) := below_alloc (Below.refl _ _) _
  have hk0 := heap_alloc_new w (.cells #[.int .i64 a0_0, .int .i64 a0_1, .bool a0_2, .bool a0_3, .int .i64 a0_4, .int .i64 a0_5, .int .i64 a0_6, .int .i64 a0_7, .int .i64 a0_8, .int .i64 a0_9] 37)
  have hks : w.heap.size < (w.alloc (.cells #[.int .i64 a0_0, .int .i64 a0_1, .bool a0_2, .bool a0_3, .int .i64 a0_4, .int .i64 a0_5, .int .i64 a0_6, .int .i64 a0_7, .int .i64 a0_8, .int .i64 a0_9] 37)).heap.size := by simp
  have HF := Lib.hid hf; have HVS := Lib.hid hvs; have HG := Lib.hid hg; have HPS := Lib.hid hps; have HS0 := Lib.hid hs0; have HS1 := Lib.hid hs1; have HR := Lib.hid hR; have HSZ := Lib.hid hsz; have H3 := Lib.hid hr3; have HC3 := Lib.hid hc3
  have HB0 := Lib.hid hb0; have HK0 := Lib.hid hk0; have HKS := Lib.hid hks
  clear hf hvs hg hps hs0 hs1 hR hsz hr3 hc3 ht2 hlen hb0 hk0 hks h
  go_enter Try.func14, Try.ntmps14
  go_wp2_with fail
  refine (plain_Fits.calls a0_0 a0_1 a0_2 a0_3 a0_4 a0_5 a0_6 a0_7 a0_8 a0_9 a1 a2 true _ HF.out).mono ?_; rintro e w1 ⟨rfl, hb⟩
  have HK1 := Lib.hid ((hb.block _ HKS.out).trans HK0.out); have HB1 := Lib.hid (HB0.out.trans (hb.mono HB0.out.size)); have HZ1 := Lib.hid (Nat.lt_of_lt_of_le HKS.out hb.size); clear hb

  have q0 := (blk_cell HK1.out 0).trans rfl; have q1 := (blk_cell HK1.out 1).trans rfl; have q2 := (blk_cell HK1.out 2).trans rfl; have q3 := (blk_cell HK1.out 3).trans rfl; have q4 := (blk_cell HK1.out 4).trans rfl; have q5 := (blk_cell HK1.out 5).trans rfl; have q6 := (blk_cell HK1.out 6).trans rfl; have q7 := (blk_cell HK1.out 7).trans rfl; have q8 := (blk_cell HK1.out 8).trans rfl; have q9 := (blk_cell HK1.out 9).trans rfl
  go_wp2_with fail
  clear q0 q1 q2 q3 q4 q5 q6 q7 q8 q9
  refine (plain_Values.calls a0_0 a0_1 a0_2 a0_3 a0_4 a0_5 a0_6 a0_7 a0_8 a0_9 A3 c3 l3 vs _ (Kd.C_below H3.out HB1.out) HC3.out HVS.out).mono ?_; rintro e w2 ⟨v2, rfl, hr, hb⟩
  obtain ⟨A4, c4, rfl, hn4, hC4⟩ := Kd.R_reads hr
  have HK2 := Lib.hid ((hb.block _ HZ1.out).trans HK1.out); have HB2 := Lib.hid (HB1.out.trans (hb.mono HB1.out.size)); have HZ2 := Lib.hid (Nat.lt_of_lt_of_le HZ1.out hb.size); have H4 := Lib.hid hC4; have HC4 := Lib.hid hn4; clear hb hr hC4 hn4
  go_wp2_with fail
  refine (rre_Ground.calls A4 c4 vs g _ H4.out HC4.out HG.out).mono ?_; rintro e w3 ⟨rfl, hb⟩
  have HK3 := Lib.hid ((hb.block _ HZ2.out).trans HK2.out); have HB3 := Lib.hid (HB2.out.trans (hb.mono HB2.out.size)); have HZ3 := Lib.hid (Nat.lt_of_lt_of_le HZ2.out hb.size); have H5 := Lib.hid (Kd.C_below H4.out hb); clear hb
  go_wp2_with fail
  refine (rre_Pieces.calls a1 a2 A4 c4 vs g ps _ H5.out HC4.out HPS.out).mono ?_; rintro e w4 ⟨v6, rfl, hr, hb⟩
  obtain ⟨A6, c6, rfl, hn6, hC6⟩ := Kd.R_reads hr
  have HK4 := Lib.hid ((hb.block _ HZ3.out).trans HK3.out); have HB4 := Lib.hid (HB3.out.trans (hb.mono HB3.out.size)); have HZ4 := Lib.hid (Nat.lt_of_lt_of_le HZ3.out hb.size); have H6 := Lib.hid hC6; clear hb hr hC6 hn6 HK1 HK2 HK3 HB1 HB2 HB3 HZ1 HZ2 HZ3 H4 H5
  go_wp2_with fail
  refine (rre_number.calls k 4 (ps.length : Int) s0 _ HS0.out).mono ?_; rintro e w5 ⟨rfl, hb⟩
  have HE5 := Lib.hid ((EW.new (wb := w4) (heap_alloc_new w4 (.cells #[.pointer none, .slice none 0 0] 65)) (below_alloc (Below.refl _ _) _)).step hb); clear hb
  go_wp2_with fail
  refine (write_c s0 HE5.out (by have := HSZ.out.1; simp; omega)).mono ?_; rintro e w6 ⟨rfl, he, hk_⟩; clear hk_
  rw [List.nil_append] at he; have HE6 := Lib.hid he; have HK6 := Lib.hid ((he.2.block _ HZ4.out).trans HK4.out); clear he HE5
  have q0 := (blk_cell HK6.out 0).trans rfl; have q1 := (blk_cell HK6.out 1).trans rfl; have q2 := (blk_cell HK6.out 2).trans rfl; have q3 := (blk_cell HK6.out 3).trans rfl; have q4 := (blk_cell HK6.out 4).trans rfl; have q5 := (blk_cell HK6.out 5).trans rfl; have q6 := (blk_cell HK6.out 6).trans rfl; have q7 := (blk_cell HK6.out 7).trans rfl; have q8 := (blk_cell HK6.out 8).trans rfl; have q9 := (blk_cell HK6.out 9).trans rfl
  go_wp2_with fail
  clear q0 q1 q2 q3 q4 q5 q6 q7 q8 q9
  refine (format_Put.calls k a0_0 a0_1 a0_2 a0_3 a0_4 a0_5 a0_6 a0_7 a0_8 a0_9 g s1 _ HS1.out).mono ?_; rintro e w7 ⟨rfl, hb⟩
  have HE7 := Lib.hid (HE6.out.step hb); clear hb HE6 HK6
  go_wp2_with fail
  refine (write_c s1 HE7.out (by have := HSZ.out.1; simpa using this)).mono ?_; rintro e w8 ⟨rfl, he, hk_⟩; clear hk_
  have HE8 := Lib.hid he; clear he HE7
  obtain ⟨acc0, hacc0⟩ : ∃ X, s0.data.toList ++ s1.data.toList = X := ⟨_, rfl⟩
  rw [hacc0] at HR HE8
  have hacl : acc0.length = s0.size + s1.size := by rw [← hacc0]; simp
  have HACL := Lib.hid hacl; clear hacl hacc0
  have p9 : ps.length ≤ 1000000 := HSZ.out.2
  go_wp2_with fail
  go_loopw [51] (fun q w' => ∃ (i : Nat) (acc : List UInt8), i ≤ ps.length ∧ q = .int .i64 (i : Int) ∧ Hid (EW w4 w4.heap.size acc w') ∧ Hid (acc.length ≤ 1000000000 ∧ encL (fun v => format_Put.f k a0_0 a0_1 a0_2 a0_3 a0_4 a0_5 a0_6 a0_7 a0_8 a0_9 v) (fun v => rre_number.f k 2 v) (ps.drop i) acc = some R)) (fun q _ => ps.length - (intOf q).toNat)
  case atStart => exact ⟨0, acc0, Nat.zero_le _, rfl, HE8, Lib.hid ⟨by have := HACL.out; have := HSZ.out.1; omega, HR.out⟩⟩
  case round =>
    obtain ⟨i, acc, hi, rfl, HEW, HEN⟩ := hrel
    by_cases hlt : i < ps.length
    · have d2 : decide ((i : Int) < (ps.length : Int)) = true := decide_eq_true (by omega)
      have d3 : decide (i < ps.length) = true := decide_eq_true hlt
      have p0 : (0 : Int) ≤ (i : Int) := by omega
      have p1 : (i : Int) < (ps.length : Int) := by omega
      have hst := HEN.out.2
      rw [List.drop_eq_getElem_cons hlt] at hst
      obtain ⟨s, x, y, u, v, h1, h2, h3, h4, h5, h6, h7⟩ := encL_step hst
      obtain ⟨ad, ea, x0, x1, x2, x3, x4⟩ := at_T31 (Kd.C_below H6.out HEW.out.2) (i : Int) p0 p1
      have hrd : rd_T31 ps (i : Int) = ps[i] := by unfold rd_T31; rw [Int.toNat_natCast, List.getD_eq_getElem?_getD, List.getElem?_eq_getElem hlt]; rfl
      rw [hrd, Int.toNat_natCast] at x0 x1 x2 x3 x4
      obtain ⟨pc, hpc⟩ : ∃ p, ps[i] = p := ⟨_, rfl⟩
      rw [hpc] at x0 x1 x2 x3 x4 h1 h2 h3 h4 h5
      have HL := Lib.hid hlt; have G1 := Lib.hid h1; have G2 := Lib.hid h2; have G3 := Lib.hid h3; have G4 := Lib.hid h4; have G5 := Lib.hid h5; have G6 := Lib.hid h6; have G7 := Lib.hid h7
      clear hrd hpc h1 h2 h3 h4 h5 h6 h7 hst hlt hi HEN
      subst ea
      have HKr := Lib.hid ((HEW.out.2.block _ HZ4.out).trans HK4.out)
      have hzr : w.heap.size < wr.heap.size := Nat.lt_trans HZ4.out HEW.out.lt
      have hzn : w.heap.size ≠ wr.heap.size := Nat.ne_of_lt hzr
      have q0 := (blk_cell HKr.out 0).trans rfl; have q1 := (blk_cell HKr.out 1).trans rfl; have q2 := (blk_cell HKr.out 2).trans rfl; have q3 := (blk_cell HKr.out 3).trans rfl; have q4 := (blk_cell HKr.out 4).trans rfl; have q5 := (blk_cell HKr.out 5).trans rfl; have q6 := (blk_cell HKr.out 6).trans rfl; have q7 := (blk_cell HKr.out 7).trans rfl; have q8 := (blk_cell HKr.out 8).trans rfl; have q9 := (blk_cell HKr.out 9).trans rfl
      go_wp2_with fail
      clear q0 q1 q2 q3 q4 q5 q6 q7 q8 q9
      have BP := Lib.hid (heap_alloc_new wr (.cells #[.int .i64 pc.f0, .int .i64 pc.f1.f0, .int .i64 pc.f1.f1, .int .i64 pc.f1.f2, .int .i64 pc.f1.f3] 31))
      have EA := Lib.hid (HEW.out.step (below_alloc (Below.refl _ _) (.cells #[.int .i64 pc.f0, .int .i64 pc.f1.f0, .int .i64 pc.f1.f1, .int .i64 pc.f1.f2, .int .i64 pc.f1.f3] 31)))
      have HPZ := Lib.hid (show wr.heap.size ≠ w4.heap.size from Nat.ne_of_gt HEW.out.lt)
      have LT0 := Lib.hid (show wr.heap.size < (wr.alloc (.cells #[.int .i64 pc.f0, .int .i64 pc.f1.f0, .int .i64 pc.f1.f1, .int .i64 pc.f1.f2, .int .i64 pc.f1.f3] 31)).heap.size by simp)
      clear x0 x1 x2 x3 x4 hzr hzn
      refine (format_Put.calls k a0_0 a0_1 a0_2 a0_3 a0_4 a0_5 a0_6 a0_7 a0_8 a0_9 pc.f0 s _ G1.out).mono ?_; rintro e y1 ⟨rfl, hb⟩
      have E1 := Lib.hid (EA.out.step hb); have B1 := Lib.hid ((hb.block _ LT0.out).trans BP.out); clear hb
      go_wp2_with fail
      have hacs : acc.length + s.size ≤ 1000000000 ∧ (acc ++ s.data.toList).length + x.size ≤ 1000000000 ∧ (acc ++ s.data.toList ++ x.data.toList).length + y.size ≤ 1000000000 ∧ (acc ++ s.data.toList ++ x.data.toList ++ y.data.toList).length + u.size ≤ 1000000000 ∧ (acc ++ s.data.toList ++ x.data.toList ++ y.data.toList ++ u.data.toList).length + v.size ≤ 1000000000 := by
        have h := G6.out
        simp only [List.length_append] at h ⊢
        have e1 : s.data.toList.length = s.size := by simp
        have e2 : x.data.toList.length = x.size := by simp
        have e3 : y.data.toList.length = y.size := by simp
        have e4 : u.data.toList.length = u.size := by simp
        have e5 : v.data.toList.length = v.size := by simp
        rw [e1, e2, e3, e4, e5] at h
        rw [e1, e2, e3, e4]
        omega
      have HAC := Lib.hid hacs; clear hacs
      refine (write_c s E1.out HAC.out.1).mono ?_; rintro e y2 ⟨rfl, he, hk_⟩
      have E2 := Lib.hid he; have B2 := Lib.hid (hk_ _ _ _ B1.out (by decide) HPZ.out); clear he hk_ E1 B1
      have q0 := (blk_cell B2.out 0).trans rfl; have q1 := (blk_cell B2.out 1).trans rfl; have q2 := (blk_cell B2.out 2).trans rfl; have q3 := (blk_cell B2.out 3).trans rfl; have q4 := (blk_cell B2.out 4).trans rfl
      go_wp2_with fail
      clear q0 q1 q2 q3 q4
      refine wp_loop_rounds 5 ?_; rw [rounds_succ]
      have hix : ∀ W_, (Instr.index 72 (.agg #[.int .i64 pc.f1.f0, .int .i64 pc.f1.f1, .int .i64 pc.f1.f2, .int .i64 pc.f1.f3]) (.int .i64 0)).run Try.prog W_ = .ok (.int .i64 pc.f1.f0) W_ := fun _ => by kernel_rfl
      go_wp2_with fail
      clear hix
      refine (rre_number.calls k 2 pc.f1.f0 x _ G2.out).mono ?_; rintro e y3 ⟨rfl, hb⟩
      have E3 := Lib.hid (E2.out.step hb); clear hb E2
      go_wp2_with fail
      refine (write_c x E3.out HAC.out.2.1).mono ?_; rintro e y4 ⟨rfl, he, hk_⟩
      have E4 := Lib.hid he; clear he hk_ E3
      go_wp2_with fail
      rw [rounds_succ]
      have hix : ∀ W_, (Instr.index 72 (.agg #[.int .i64 pc.f1.f0, .int .i64 pc.f1.f1, .int .i64 pc.f1.f2, .int .i64 pc.f1.f3]) (.int .i64 1)).run Try.prog W_ = .ok (.int .i64 pc.f1.f1) W_ := fun _ => by kernel_rfl
      go_wp2_with fail
      clear hix
      refine (rre_number.calls k 2 pc.f1.f1 y _ G3.out).mono ?_; rintro e y5 ⟨rfl, hb⟩
      have E5 := Lib.hid (E4.out.step hb); clear hb E4
      go_wp2_with fail
      refine (write_c y E5.out HAC.out.2.2.1).mono ?_; rintro e y6 ⟨rfl, he, hk_⟩
      have E6 := Lib.hid he; clear he hk_ E5
      go_wp2_with fail
      rw [rounds_succ]
      have hix : ∀ W_, (Instr.index 72 (.agg #[.int .i64 pc.f1.f0, .int .i64 pc.f1.f1, .int .i64 pc.f1.f2, .int .i64 pc.f1.f3]) (.int .i64 2)).run Try.prog W_ = .ok (.int .i64 pc.f1.f2) W_ := fun _ => by kernel_rfl
      go_wp2_with fail
      clear hix
      refine (rre_number.calls k 2 pc.f1.f2 u _ G4.out).mono ?_; rintro e y7 ⟨rfl, hb⟩
      have E7 := Lib.hid (E6.out.step hb); clear hb E6
      go_wp2_with fail
      refine (write_c u E7.out HAC.out.2.2.2.1).mono ?_; rintro e y8 ⟨rfl, he, hk_⟩
      have E8 := Lib.hid he; clear he hk_ E7
      go_wp2_with fail
      rw [rounds_succ]
      have hix : ∀ W_, (Instr.index 72 (.agg #[.int .i64 pc.f1.f0, .int .i64 pc.f1.f1, .int .i64 pc.f1.f2, .int .i64 pc.f1.f3]) (.int .i64 3)).run Try.prog W_ = .ok (.int .i64 pc.f1.f3) W_ := fun _ => by kernel_rfl
      go_wp2_with fail
      clear hix
      refine (rre_number.calls k 2 pc.f1.f3 v _ G5.out).mono ?_; rintro e y9 ⟨rfl, hb⟩
      have E9 := Lib.hid (E8.out.step hb); clear hb E8
      go_wp2_with fail
      refine (write_c v E9.out HAC.out.2.2.2.2).mono ?_; rintro e y10 ⟨rfl, he, hk_⟩
      have E10 := Lib.hid he; clear he hk_ E9
      go_wp2_with fail
      rw [rounds_succ]
      go_wp2
      go_roundw
      case rel => exact ⟨i + 1, _, HL.out, by go_num, E10, Lib.hid ⟨G6.out, G7.out⟩⟩
      case measure => have := HL.out; simp [intOf]; omega
    · have hie : i = ps.length := by omega
      subst hie
      have d2 : decide ((ps.length : Int) < (ps.length : Int)) = false := decide_eq_false (by omega)
      have d3 : decide (ps.length < ps.length) = false := decide_eq_false (by omega)
      have hen := HEN.out.2
      rw [List.drop_length] at hen
      obtain rfl : acc = R := by simpa [encL] using hen
      clear hen hlt hi HEN
      go_wp2_with fail
      obtain ⟨⟨cs, row, hba, _⟩, hbl⟩ := HEW.out
      have HBL := Lib.hid hbl; clear hbl
      refine (BL.String_k 65 w4.heap.size w4.heap.size 0 cs row acc _ hba (Nat.le_of_lt (blk_lt hba.2.1))).mono ?_; rintro e w9 ⟨rfl, hb, _⟩
      have HB9 := Lib.hid (HB4.out.trans ((HBL.out.trans hb).mono (Nat.le_of_lt (Nat.lt_of_lt_of_le HZ4.out (Nat.le_refl _))))); clear hb hba HEW
      go_wp2
      go_ret2
      exact ⟨rfl, HB9.out⟩

end Go.Proofs.Ytkmfhfejogjnfaa.X
