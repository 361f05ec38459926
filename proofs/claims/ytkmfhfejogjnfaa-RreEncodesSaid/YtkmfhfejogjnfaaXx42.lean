/- What each Go function that these laws use answers: as a Lean function, with the proof that the machine's call comes to it. Written by a program of this session (xprint.py). -/
import Derived.Test.YtkmfhfejogjnfaaXx0
import Derived.Test.YtkmfhfejogjnfaaXx31
import Derived.Test.YtkmfhfejogjnfaaXx32
import Derived.Test.YtkmfhfejogjnfaaXx36
import Derived.Test.YtkmfhfejogjnfaaXx37
import Derived.Test.YtkmfhfejogjnfaaXx39
import Derived.Test.YtkmfhfejogjnfaaXx40
import Derived.Test.YtkmfhfejogjnfaaXx41
import Derived.Test.YtkmfhfejogjnfaaHR
namespace Go.Proofs.Ytkmfhfejogjnfaa.X
open Go.RowKit Go.Proofs.YtkmfhfejogjnfaaW.PrintWords Go.Proofs.YtkmfhfejogjnfaaW.PrintLast Go.Proofs.YtkmfhfejogjnfaaW.PrintMore
attribute [local go_sem] max2_int min2_int max_two min_two max_three min_three max_four min_four   -- for this text's walks alone
set_option linter.unusedVariables false
set_option linter.unusedSimpArgs false

/-! ### miradorref17_Encode: function 15 -/
/-- The texts of the pieces, one behind the other. -/
def docL (put two : Int → Option ByteArray) : List S33 → ByteArray → Option ByteArray
  | [], s => some s
  | p :: l, s => (put p.f0).bind fun a => (two p.f1.f0).bind fun b => (two p.f1.f1).bind fun c => (two p.f1.f2).bind fun d => (two p.f1.f3).bind fun e =>
      if s.size + a.size + b.size + c.size + d.size + e.size ≤ 1000000000 then docL put two l (((((s ++ a) ++ b) ++ c) ++ d) ++ e) else none
theorem docL_mono (p1 n1 p2 n2 : Int → Option ByteArray) (hp : ∀ v, LeO (p1 v) (p2 v)) (hn : ∀ v, LeO (n1 v) (n2 v)) : ∀ (l : List S33) (s : ByteArray), LeO (docL p1 n1 l s) (docL p2 n2 l s)
  | [], s => LeO.refl _
  | p :: l, s => by
    unfold docL
    exact LeO.bind (hp _) fun _ => LeO.bind (hn _) fun _ => LeO.bind (hn _) fun _ => LeO.bind (hn _) fun _ => LeO.bind (hn _) fun _ => LeO.ite (docL_mono p1 n1 p2 n2 hp hn l _) (LeO.refl _)
theorem docL_step {put two : Int → Option ByteArray} {p : S33} {l : List S33} {s r : ByteArray} (h : docL put two (p :: l) s = some r) : ∃ a b c d e : ByteArray, put p.f0 = some a ∧ two p.f1.f0 = some b ∧ two p.f1.f1 = some c ∧ two p.f1.f2 = some d ∧ two p.f1.f3 = some e ∧ s.size + a.size + b.size + c.size + d.size + e.size ≤ 1000000000 ∧ docL put two l (((((s ++ a) ++ b) ++ c) ++ d) ++ e) = some r := by
  unfold docL at h
  obtain ⟨a, h1, h⟩ := Option.bind_eq_some_iff.1 h
  obtain ⟨b, h2, h⟩ := Option.bind_eq_some_iff.1 h
  obtain ⟨c, h3, h⟩ := Option.bind_eq_some_iff.1 h
  obtain ⟨d, h4, h⟩ := Option.bind_eq_some_iff.1 h
  obtain ⟨e, h5, h⟩ := Option.bind_eq_some_iff.1 h
  split at h
  · rename_i hl
    exact ⟨a, b, c, d, e, h1, h2, h3, h4, h5, hl, h⟩
  · cases h
def miradorref17_Encode.g (k : Nat) (a0_0 : Int) (a0_1 : Int) (a0_2 : Bool) (a0_3 : Bool) (a0_4 : Int) (a0_5 : Int) (a0_6 : Int) (a0_7 : Int) (a0_8 : Int) (a0_9 : Int) (a1 a2 : Int) (l3 : List Int) : Option (ByteArray × Int) := (miradorref16_Values.f k a0_0 a0_1 a0_2 a0_3 a0_4 a0_5 a0_6 a0_7 a0_8 a0_9 l3).bind fun vs => (miradorref17_Ground.f k vs).bind fun g => (miradorref17_Pieces.f k a1 a2 vs g).bind fun l => (miradorref17_four.f k (l.length : Int)).bind fun s0 => (miradorref13_Put.f k a0_0 a0_1 a0_2 a0_3 a0_4 a0_5 a0_6 a0_7 a0_8 a0_9 g).bind fun s1 =>
    if s0.size + s1.size ≤ 1000000000 ∧ l.length ≤ 1000000 then (docL (fun v => miradorref13_Put.f k a0_0 a0_1 a0_2 a0_3 a0_4 a0_5 a0_6 a0_7 a0_8 a0_9 v) (fun v => miradorref17_two.f k v) l (s0 ++ s1)).bind fun r => some (r, 0) else none
def miradorref17_Encode.f (k : Nat) (a0_0 : Int) (a0_1 : Int) (a0_2 : Bool) (a0_3 : Bool) (a0_4 : Int) (a0_5 : Int) (a0_6 : Int) (a0_7 : Int) (a0_8 : Int) (a0_9 : Int) (a1 a2 : Int) (l3 : List Int) : Option (ByteArray × Int) := (miradorref16_Fits.f k a0_0 a0_1 a0_2 a0_3 a0_4 a0_5 a0_6 a0_7 a0_8 a0_9 a1 a2).bind fun t =>
  if (t && decide ((l3.length : Int) = wrap64 (a1 * a2))) = true then miradorref17_Encode.g k a0_0 a0_1 a0_2 a0_3 a0_4 a0_5 a0_6 a0_7 a0_8 a0_9 a1 a2 l3 else some (⟨#[]⟩, 1)
theorem miradorref17_Encode.mono : ∀ a0 a1 a2 a3 a4 a5 a6 a7 a8 a9 a10 a11 a12 k, LeO (miradorref17_Encode.f k a0 a1 a2 a3 a4 a5 a6 a7 a8 a9 a10 a11 a12) (miradorref17_Encode.f (k + 1) a0 a1 a2 a3 a4 a5 a6 a7 a8 a9 a10 a11 a12) := by
  intro a0 a1 a2 a3 a4 a5 a6 a7 a8 a9 a10 a11 a12 k
  unfold miradorref17_Encode.f
  refine LeO.bind (miradorref16_Fits.mono _ _ _ _ _ _ _ _ _ _ _ _ _) fun _ => LeO.ite ?_ (LeO.refl _)
  unfold miradorref17_Encode.g
  exact LeO.bind (miradorref16_Values.mono _ _ _ _ _ _ _ _ _ _ _ _) fun _ => LeO.bind (miradorref17_Ground.mono _ _) fun _ => LeO.bind (miradorref17_Pieces.mono _ _ _ _ _) fun _ => LeO.bind (miradorref17_four.mono _ _) fun _ => LeO.bind (miradorref13_Put.mono _ _ _ _ _ _ _ _ _ _ _ _) fun _ => LeO.ite (LeO.bind (docL_mono _ _ _ _ (fun _ => miradorref13_Put.mono _ _ _ _ _ _ _ _ _ _ _ _) (fun _ => miradorref17_two.mono _ _) _ _) fun _ => LeO.refl _) (LeO.refl _)
open Go.Shelf Go.Sort Go.Proofs.Ytkmfhfejogjnfaa
set_option maxHeartbeats 16000000 in
set_option maxRecDepth 100000 in
theorem miradorref17_Encode.calls (k : Nat) (a0_0 : Int) (a0_1 : Int) (a0_2 : Bool) (a0_3 : Bool) (a0_4 : Int) (a0_5 : Int) (a0_6 : Int) (a0_7 : Int) (a0_8 : Int) (a0_9 : Int) (a1 : Int) (a2 : Int) (A3 : Option Addr) (c3 : Nat) (l3 : List Int) (r1 : ByteArray) (r2 : Int) (w : World) (hr3 : Kd.C (Kd.int .i64) w A3 l3.length l3) (hc3 : l3.length ≤ c3) (h : miradorref17_Encode.f k a0_0 a0_1 a0_2 a0_3 a0_4 a0_5 a0_6 a0_7 a0_8 a0_9 a1 a2 l3 = some (r1, r2)) :
    Calls Try.prog 15 #[.agg #[.int .i64 a0_0, .int .i64 a0_1, .bool a0_2, .bool a0_3, .int .i64 a0_4, .int .i64 a0_5, .int .i64 a0_6, .int .i64 a0_7, .int .i64 a0_8, .int .i64 a0_9], .int .i64 a1, .int .i64 a2, .slice A3 l3.length c3] w fun e w' => e = .returned (.tuple #[.string r1, .int .i64 r2]) ∧ Below w.heap.size w w' := by
  unfold miradorref17_Encode.f at h
  obtain ⟨t, hf, h⟩ := Option.bind_eq_some_iff.1 h
  have B0 := Lib.hid (below_alloc (Below.refl w.heap.size w) (.cells #[.int .i64 a0_0, .int .i64 a0_1, .bool a0_2, .bool a0_3, .int .i64 a0_4, .int .i64 a0_5, .int .i64 a0_6, .int .i64 a0_7, .int .i64 a0_8, .int .i64 a0_9] 37))
  have K0 := Lib.hid (heap_alloc_new w (.cells #[.int .i64 a0_0, .int .i64 a0_1, .bool a0_2, .bool a0_3, .int .i64 a0_4, .int .i64 a0_5, .int .i64 a0_6, .int .i64 a0_7, .int .i64 a0_8, .int .i64 a0_9] 37))
  have HF := Lib.hid hf; have H3 := Lib.hid hr3; have HC3 := Lib.hid hc3; clear hf hr3 hc3
  obtain ⟨M, hM⟩ : ∃ M, wrap64 (a1 * a2) = M := ⟨_, rfl⟩
  by_cases ht : (t && decide ((l3.length : Int) = wrap64 (a1 * a2))) = true
  rotate_left
  · rw [if_neg ht] at h
    obtain ⟨rfl, rfl⟩ : (⟨#[]⟩ : ByteArray) = r1 ∧ (1 : Int) = r2 := by have h8 := Option.some.inj h; exact ⟨congrArg (fun x => x.1) h8, congrArg (fun x => x.2) h8⟩
    rw [hM] at ht
    clear h
    cases t with
    | false =>
      clear ht
      go_enter Try.func15, Try.ntmps15
      go_wp2_with fail
      refine (miradorref16_Fits.calls k a0_0 a0_1 a0_2 a0_3 a0_4 a0_5 a0_6 a0_7 a0_8 a0_9 a1 a2 false _ HF.out).mono ?_; rintro e y1 ⟨rfl, hb⟩
      have B1 := Lib.hid (B0.out.trans (hb.mono B0.out.size)); clear hb
      go_wp2
      go_ret2
      exact ⟨rfl, B1.out⟩
    | true =>
      have d1 : ((l3.length : Int) != M) = true := by simpa using ht
      clear ht
      go_enter Try.func15, Try.ntmps15
      go_wp2_with fail
      refine (miradorref16_Fits.calls k a0_0 a0_1 a0_2 a0_3 a0_4 a0_5 a0_6 a0_7 a0_8 a0_9 a1 a2 true _ HF.out).mono ?_; rintro e y1 ⟨rfl, hb⟩
      have B1 := Lib.hid (B0.out.trans (hb.mono B0.out.size)); clear hb
      go_wp2
      go_ret2
      exact ⟨rfl, B1.out⟩
  rw [if_pos ht] at h
  unfold miradorref17_Encode.g at h
  obtain ⟨vs, hvs, h⟩ := Option.bind_eq_some_iff.1 h
  obtain ⟨g, hg, h⟩ := Option.bind_eq_some_iff.1 h
  obtain ⟨ps, hps, h⟩ := Option.bind_eq_some_iff.1 h
  obtain ⟨s0, hs0, h⟩ := Option.bind_eq_some_iff.1 h
  obtain ⟨s1, hs1, h⟩ := Option.bind_eq_some_iff.1 h
  split at h
  rotate_left
  · cases h
  rename_i hsz
  obtain ⟨R, hR, h⟩ := Option.bind_eq_some_iff.1 h
  obtain ⟨rfl, rfl⟩ : R = r1 ∧ (0 : Int) = r2 := by have h8 := Option.some.inj h; exact ⟨congrArg (fun x => x.1) h8, congrArg (fun x => x.2) h8⟩
  rw [Bool.and_eq_true, hM] at ht
  obtain ⟨rfl, ht2⟩ := ht
  have d1 : ((l3.length : Int) != M) = false := by simpa using ht2
  have HVS := Lib.hid hvs; have HG := Lib.hid hg; have HPS := Lib.hid hps; have HS0 := Lib.hid hs0; have HS1 := Lib.hid hs1; have HSZ := Lib.hid hsz; have HRR := Lib.hid hR
  clear hvs hg hps hs0 hs1 hsz hR h ht2
  go_enter Try.func15, Try.ntmps15
  go_wp2_with fail
  refine (miradorref16_Fits.calls k a0_0 a0_1 a0_2 a0_3 a0_4 a0_5 a0_6 a0_7 a0_8 a0_9 a1 a2 true _ HF.out).mono ?_; rintro e y1 ⟨rfl, hb⟩
  have B1 := Lib.hid (B0.out.trans (hb.mono B0.out.size)); have K1 := Lib.hid ((hb.block _ (blk_lt K0.out)).trans K0.out); clear hb B0 K0
  have q0 := (blk_cell K1.out 0).trans rfl; have q1 := (blk_cell K1.out 1).trans rfl; have q2 := (blk_cell K1.out 2).trans rfl; have q3 := (blk_cell K1.out 3).trans rfl; have q4 := (blk_cell K1.out 4).trans rfl; have q5 := (blk_cell K1.out 5).trans rfl; have q6 := (blk_cell K1.out 6).trans rfl; have q7 := (blk_cell K1.out 7).trans rfl; have q8 := (blk_cell K1.out 8).trans rfl; have q9 := (blk_cell K1.out 9).trans rfl
  go_wp2_with fail
  clear q0 q1 q2 q3 q4 q5 q6 q7 q8 q9
  refine (miradorref16_Values.calls k a0_0 a0_1 a0_2 a0_3 a0_4 a0_5 a0_6 a0_7 a0_8 a0_9 A3 c3 l3 vs _ (Kd.C_below H3.out B1.out) HC3.out HVS.out).mono ?_; rintro e y2 ⟨v2, rfl, hr, hb⟩
  obtain ⟨A4, c4, rfl, hn4, hC4⟩ := Kd.R_reads hr
  have B2 := Lib.hid (B1.out.trans (hb.mono B1.out.size)); have K2 := Lib.hid ((hb.block _ (blk_lt K1.out)).trans K1.out); have H4 := Lib.hid hC4; have HC4 := Lib.hid hn4; clear hb hr hC4 hn4 B1 K1
  go_wp2_with fail
  refine (miradorref17_Ground.calls k A4 c4 vs g _ H4.out HC4.out HG.out).mono ?_; rintro e y3 ⟨rfl, hd⟩
  have hb : Below y2.heap.size y2 y3 := by obtain ⟨⟨m, rfl⟩⟩ := hd; exact pw_below_drewN (Below.refl _ _) m
  have B3 := Lib.hid (B2.out.trans (hb.mono B2.out.size)); have K3 := Lib.hid ((hb.block _ (blk_lt K2.out)).trans K2.out); have H5 := Lib.hid (Kd.C_below H4.out hb); clear hb hd B2 K2 H4
  go_wp2_with fail
  refine (miradorref17_Pieces.calls k a1 a2 A4 c4 vs g ps _ H5.out HC4.out HPS.out).mono ?_; rintro e y4 ⟨v6, rfl, hr, hb⟩
  obtain ⟨A6, c6, rfl, hn6, hC6⟩ := Kd.R_reads hr
  have B4 := Lib.hid (B3.out.trans (hb.mono B3.out.size)); have K4 := Lib.hid ((hb.block _ (blk_lt K3.out)).trans K3.out); have H6 := Lib.hid hC6; clear hb hr hC6 hn6 B3 K3 H5
  go_wp2_with fail
  have SD := Lib.hid (Below.drew (Below.refl y4.heap.size y4))
  refine (wpIn_wide (n := 4)).1 ?_
  refine RX.wpIn_only ?_
  refine HR.region [] (fun w' => Below y4.heap.size y4 w') (by kernel_rfl) ?_
  refine HR.take 0 (v := .slice A6 ps.length c6) (by kernel_rfl) (by kernel_rfl) (fun _ => trivial) (by kernel_rfl) rfl (by kernel_rfl) (by kernel_rfl) (by kernel_rfl) (fun _ _ _ h => h) (SD.out) rfl (fun w0 hw0 => by go_simp) ?_
  simp only [Act.put, List.setIfInBounds_toArray, List.set_cons_zero, List.set_cons_succ]
  refine HR.take 1 (v := .int .i64 (ps.length : Int)) (by kernel_rfl) (by kernel_rfl) (fun _ => trivial) (by kernel_rfl) rfl (by kernel_rfl) (by kernel_rfl) (by kernel_rfl) (fun _ _ _ h => h) (SD.out) rfl (fun w0 hw0 => by go_simp) ?_
  simp only [Act.put, List.setIfInBounds_toArray, List.set_cons_zero, List.set_cons_succ]
  refine HR.take 3 (v := .agg #[.int .i64 a0_0, .int .i64 a0_1, .bool a0_2, .bool a0_3, .int .i64 a0_4, .int .i64 a0_5, .int .i64 a0_6, .int .i64 a0_7, .int .i64 a0_8, .int .i64 a0_9]) (by kernel_rfl) (by kernel_rfl) (fun _ => trivial) (by kernel_rfl) rfl (by kernel_rfl) (by kernel_rfl) (by kernel_rfl) (fun _ _ _ h => h) (SD.out) rfl (fun w0 hw0 => by have q0 := (blk_cell ((hw0.block _ (blk_lt K4.out)).trans K4.out) 0).trans rfl; have q1 := (blk_cell ((hw0.block _ (blk_lt K4.out)).trans K4.out) 1).trans rfl; have q2 := (blk_cell ((hw0.block _ (blk_lt K4.out)).trans K4.out) 2).trans rfl; have q3 := (blk_cell ((hw0.block _ (blk_lt K4.out)).trans K4.out) 3).trans rfl; have q4 := (blk_cell ((hw0.block _ (blk_lt K4.out)).trans K4.out) 4).trans rfl; have q5 := (blk_cell ((hw0.block _ (blk_lt K4.out)).trans K4.out) 5).trans rfl; have q6 := (blk_cell ((hw0.block _ (blk_lt K4.out)).trans K4.out) 6).trans rfl; have q7 := (blk_cell ((hw0.block _ (blk_lt K4.out)).trans K4.out) 7).trans rfl; have q8 := (blk_cell ((hw0.block _ (blk_lt K4.out)).trans K4.out) 8).trans rfl; have q9 := (blk_cell ((hw0.block _ (blk_lt K4.out)).trans K4.out) 9).trans rfl; go_simp) ?_
  simp only [Act.put, List.setIfInBounds_toArray, List.set_cons_zero, List.set_cons_succ]
  refine HR.take 4 (v := .int .i64 g) (by kernel_rfl) (by kernel_rfl) (fun _ => trivial) (by kernel_rfl) rfl (by kernel_rfl) (by kernel_rfl) (by kernel_rfl) (fun _ _ _ h => h) (SD.out) rfl (fun w0 hw0 => by go_simp) ?_
  simp only [Act.put, List.setIfInBounds_toArray, List.set_cons_zero, List.set_cons_succ]
  refine HR.one 2 (by kernel_rfl) rfl (fun K hK => ?_)
  go_simp
  refine ⟨trivial, (callsIn_wide.2 (miradorref17_four.calls k (ps.length : Int) s0 _ HS0.out)).mono ?_⟩
  rintro e y5 ⟨rfl, hb⟩
  have S_y5 := Lib.hid (SD.out.trans (hb.mono SD.out.size)); clear hb
  refine hK _ _ ⟨.inr S_y5.out, ?_⟩; clear hK K
  refine HR.one 5 (by kernel_rfl) rfl (fun K hK => ?_)
  go_simp
  refine ⟨trivial, (callsIn_wide.2 (miradorref13_Put.calls k a0_0 a0_1 a0_2 a0_3 a0_4 a0_5 a0_6 a0_7 a0_8 a0_9 g s1 _ HS1.out)).mono ?_⟩
  rintro e y6 ⟨rfl, hb⟩
  have S_y6 := Lib.hid (S_y5.out.trans (hb.mono S_y5.out.size)); clear hb
  refine hK _ _ ⟨.inr S_y6.out, ?_⟩; clear hK K
  have hcc : (9223372036854775807 < s0.size + s1.size) = False := eq_false (by have := HSZ.out.1; omega)
  refine HR.one 6 (by kernel_rfl) rfl (fun K hK => ?_)
  go_simp
  refine hK _ _ ⟨.inr S_y6.out, ?_⟩; clear hK K
  clear hcc
  refine HR.one 7 (by kernel_rfl) rfl (fun K hK => ?_)
  go_simp
  refine hK _ _ ⟨.inr S_y6.out, ?_⟩; clear hK K
  refine HR.done (by kernel_rfl) (show Exit.then _ _ Exit.normal _ _ from ?_) _
  have B6 := Lib.hid (B4.out.trans (S_y6.out.mono B4.out.size)); have K6 := Lib.hid ((S_y6.out.block _ (blk_lt K4.out)).trans K4.out); have H7 := Lib.hid (Kd.C_below H6.out S_y6.out); clear B4 K4 H6 SD S_y5 S_y6
  obtain ⟨acc0, hacc⟩ : ∃ X, s0 ++ s1 = X := ⟨_, rfl⟩
  rw [hacc] at HRR ⊢
  have HZA := Lib.hid (show acc0.size ≤ 1000000000 by rw [← hacc]; have := HSZ.out.1; simpa using this); clear hacc
  have p9 : ps.length ≤ 1000000 := HSZ.out.2
  go_wp2_with fail
  go_loopw [13, 14] (fun sv q w' => ∃ (i : Nat) (acc : ByteArray), i ≤ ps.length ∧ q = .int .i64 (i : Int) ∧ sv = .string acc ∧ Hid (Below w.heap.size w w' ∧ w'.heap[w.heap.size]? = some (.cells #[.int .i64 a0_0, .int .i64 a0_1, .bool a0_2, .bool a0_3, .int .i64 a0_4, .int .i64 a0_5, .int .i64 a0_6, .int .i64 a0_7, .int .i64 a0_8, .int .i64 a0_9] 37 (0, 0)) ∧ Kd.C k33 w' A6 ps.length ps) ∧ Hid (docL (fun v => miradorref13_Put.f k a0_0 a0_1 a0_2 a0_3 a0_4 a0_5 a0_6 a0_7 a0_8 a0_9 v) (fun v => miradorref17_two.f k v) (ps.drop i) acc = some R)) (fun _ q _ => ps.length - (intOf q).toNat)
  case atStart => exact ⟨0, acc0, Nat.zero_le _, rfl, rfl, Lib.hid ⟨B6.out, K6.out, H7.out⟩, HRR⟩
  case round =>
    obtain ⟨i, acc, hi, rfl, rfl, HW, HX⟩ := hrel
    by_cases hlt : i < ps.length
    · have d2 : decide ((i : Int) < (ps.length : Int)) = true := decide_eq_true (by omega)
      have d3 : decide (i < ps.length) = true := decide_eq_true hlt
      have p0 : (0 : Int) ≤ (i : Int) := by omega
      have p1 : (i : Int) < (ps.length : Int) := by omega
      have hst := HX.out
      rw [List.drop_eq_getElem_cons hlt] at hst
      obtain ⟨ta, tb, tc, td, te, h1, h2, h3, h4, h5, h6, h7⟩ := docL_step hst
      obtain ⟨ad, ea, x0, x1, x2, x3, x4⟩ := at_T33 HW.out.2.2 (i : Int) p0 p1
      have hrd : rd_T33 ps (i : Int) = ps[i] := by unfold rd_T33; rw [Int.toNat_natCast, List.getD_eq_getElem?_getD, List.getElem?_eq_getElem hlt]; rfl
      rw [hrd, Int.toNat_natCast] at x0 x1 x2 x3 x4
      obtain ⟨pc, hpc⟩ : ∃ p, ps[i] = p := ⟨_, rfl⟩
      rw [hpc] at x0 x1 x2 x3 x4 h1 h2 h3 h4 h5
      have HL := Lib.hid hlt; have G1 := Lib.hid h1; have G2 := Lib.hid h2; have G3 := Lib.hid h3; have G4 := Lib.hid h4; have G5 := Lib.hid h5; have G6 := Lib.hid h6; have G7 := Lib.hid h7; have X0 := Lib.hid x0
      clear hrd hpc h1 h2 h3 h4 h5 h6 h7 hst hlt hi HX
      subst ea
      have ALT := Lib.hid (World.block_lt_of_cell? wr _ X0.out)
      go_wp2_with fail
      obtain ⟨V, hV⟩ : ∃ X, wr.alloc (.cells #[.int .i64 pc.f1.f0, .int .i64 pc.f1.f1, .int .i64 pc.f1.f2, .int .i64 pc.f1.f3] 29) = X := ⟨_, rfl⟩
      have hbv : Below wr.heap.size wr V := by rw [← hV]; exact below_alloc (Below.refl _ _) _
      have BV := Lib.hid hbv; have RV := Lib.hid (show V.heap[wr.heap.size]? = some (.cells #[.int .i64 pc.f1.f0, .int .i64 pc.f1.f1, .int .i64 pc.f1.f2, .int .i64 pc.f1.f3] 29 (0, 0)) by rw [← hV]; exact heap_alloc_new wr _); have KV := Lib.hid ((hbv.block _ (blk_lt HW.out.2.1)).trans HW.out.2.1); have XV := Lib.hid (pw_cell_below hbv X0.out)
      rw [hV]; clear hV hbv x0 x1 x2 x3 x4
      have SD := Lib.hid (Below.drew (Below.refl V.heap.size V))
      refine (wpIn_wide (n := 4)).1 ?_
      refine RX.wpIn_only ?_
      refine HR.region [] (fun w' => Below V.heap.size V w') (by kernel_rfl) ?_
      refine HR.take 0 (v := .string acc) (by kernel_rfl) (by kernel_rfl) (fun _ => trivial) (by kernel_rfl) rfl (by kernel_rfl) (by kernel_rfl) (by kernel_rfl) (fun _ _ _ h => h) (SD.out) rfl (fun w0 hw0 => by go_simp) ?_
      simp only [Act.put, List.setIfInBounds_toArray, List.set_cons_zero, List.set_cons_succ]
      refine HR.take 1 (v := .agg #[.int .i64 a0_0, .int .i64 a0_1, .bool a0_2, .bool a0_3, .int .i64 a0_4, .int .i64 a0_5, .int .i64 a0_6, .int .i64 a0_7, .int .i64 a0_8, .int .i64 a0_9]) (by kernel_rfl) (by kernel_rfl) (fun _ => trivial) (by kernel_rfl) rfl (by kernel_rfl) (by kernel_rfl) (by kernel_rfl) (fun _ _ _ h => h) (SD.out) rfl (fun w0 hw0 => by have q0 := (blk_cell ((hw0.block _ (blk_lt KV.out)).trans KV.out) 0).trans rfl; have q1 := (blk_cell ((hw0.block _ (blk_lt KV.out)).trans KV.out) 1).trans rfl; have q2 := (blk_cell ((hw0.block _ (blk_lt KV.out)).trans KV.out) 2).trans rfl; have q3 := (blk_cell ((hw0.block _ (blk_lt KV.out)).trans KV.out) 3).trans rfl; have q4 := (blk_cell ((hw0.block _ (blk_lt KV.out)).trans KV.out) 4).trans rfl; have q5 := (blk_cell ((hw0.block _ (blk_lt KV.out)).trans KV.out) 5).trans rfl; have q6 := (blk_cell ((hw0.block _ (blk_lt KV.out)).trans KV.out) 6).trans rfl; have q7 := (blk_cell ((hw0.block _ (blk_lt KV.out)).trans KV.out) 7).trans rfl; have q8 := (blk_cell ((hw0.block _ (blk_lt KV.out)).trans KV.out) 8).trans rfl; have q9 := (blk_cell ((hw0.block _ (blk_lt KV.out)).trans KV.out) 9).trans rfl; go_simp) ?_
      simp only [Act.put, List.setIfInBounds_toArray, List.set_cons_zero, List.set_cons_succ]
      refine HR.take 2 (v := .slice (some ad) ps.length c6) (by kernel_rfl) (by kernel_rfl) (fun _ => trivial) (by kernel_rfl) rfl (by kernel_rfl) (by kernel_rfl) (by kernel_rfl) (fun _ _ _ h => h) (SD.out) rfl (fun w0 hw0 => by go_simp) ?_
      simp only [Act.put, List.setIfInBounds_toArray, List.set_cons_zero, List.set_cons_succ]
      refine HR.take 3 (v := .int .i64 (i : Int)) (by kernel_rfl) (by kernel_rfl) (fun _ => trivial) (by kernel_rfl) rfl (by kernel_rfl) (by kernel_rfl) (by kernel_rfl) (fun _ _ _ h => h) (SD.out) rfl (fun w0 hw0 => by go_simp) ?_
      simp only [Act.put, List.setIfInBounds_toArray, List.set_cons_zero, List.set_cons_succ]
      refine HR.take 4 (v := .pointer (some (ad.add (i * 5)))) (by kernel_rfl) (by kernel_rfl) (fun _ => trivial) (by kernel_rfl) rfl (by kernel_rfl) (by kernel_rfl) (by kernel_rfl) (fun _ _ _ h => h) (SD.out) rfl (fun w0 hw0 => by go_simp) ?_
      simp only [Act.put, List.setIfInBounds_toArray, List.set_cons_zero, List.set_cons_succ]
      refine HR.take 5 (v := .pointer (some (ad.add (i * 5)))) (by kernel_rfl) (by kernel_rfl) (fun _ => trivial) (by kernel_rfl) rfl (by kernel_rfl) (by kernel_rfl) (by kernel_rfl) (fun _ _ _ h => h) (SD.out) rfl (fun w0 hw0 => by go_simp) ?_
      simp only [Act.put, List.setIfInBounds_toArray, List.set_cons_zero, List.set_cons_succ]
      refine HR.take 6 (v := .int .i64 pc.f0) (by kernel_rfl) (by kernel_rfl) (fun _ => trivial) (by kernel_rfl) rfl (by kernel_rfl) (by kernel_rfl) (by kernel_rfl) (fun _ _ _ h => h) (SD.out) rfl (fun w0 hw0 => by have x0 := pw_cell_below hw0 XV.out; go_simp) ?_
      simp only [Act.put, List.setIfInBounds_toArray, List.set_cons_zero, List.set_cons_succ]
      refine HR.take 9 (v := .pointer (some ⟨wr.heap.size, 0, none⟩)) (by kernel_rfl) (by kernel_rfl) (fun _ => trivial) (by kernel_rfl) rfl (by kernel_rfl) (by kernel_rfl) (by kernel_rfl) (fun _ _ _ h => h) (SD.out) rfl (fun w0 hw0 => by go_simp) ?_
      simp only [Act.put, List.setIfInBounds_toArray, List.set_cons_zero, List.set_cons_succ]
      refine HR.take 10 (v := .int .i64 pc.f1.f0) (by kernel_rfl) (by kernel_rfl) (fun _ => trivial) (by kernel_rfl) rfl (by kernel_rfl) (by kernel_rfl) (by kernel_rfl) (fun _ _ _ h => h) (SD.out) rfl (fun w0 hw0 => by have r0 := (blk_cell ((hw0.block _ (blk_lt RV.out)).trans RV.out) 0).trans rfl; go_simp) ?_
      simp only [Act.put, List.setIfInBounds_toArray, List.set_cons_zero, List.set_cons_succ]
      refine HR.take 13 (v := .pointer (some ⟨wr.heap.size, 1, none⟩)) (by kernel_rfl) (by kernel_rfl) (fun _ => trivial) (by kernel_rfl) rfl (by kernel_rfl) (by kernel_rfl) (by kernel_rfl) (fun _ _ _ h => h) (SD.out) rfl (fun w0 hw0 => by go_simp) ?_
      simp only [Act.put, List.setIfInBounds_toArray, List.set_cons_zero, List.set_cons_succ]
      refine HR.take 14 (v := .int .i64 pc.f1.f1) (by kernel_rfl) (by kernel_rfl) (fun _ => trivial) (by kernel_rfl) rfl (by kernel_rfl) (by kernel_rfl) (by kernel_rfl) (fun _ _ _ h => h) (SD.out) rfl (fun w0 hw0 => by have r0 := (blk_cell ((hw0.block _ (blk_lt RV.out)).trans RV.out) 1).trans rfl; go_simp) ?_
      simp only [Act.put, List.setIfInBounds_toArray, List.set_cons_zero, List.set_cons_succ]
      refine HR.take 17 (v := .pointer (some ⟨wr.heap.size, 2, none⟩)) (by kernel_rfl) (by kernel_rfl) (fun _ => trivial) (by kernel_rfl) rfl (by kernel_rfl) (by kernel_rfl) (by kernel_rfl) (fun _ _ _ h => h) (SD.out) rfl (fun w0 hw0 => by go_simp) ?_
      simp only [Act.put, List.setIfInBounds_toArray, List.set_cons_zero, List.set_cons_succ]
      refine HR.take 18 (v := .int .i64 pc.f1.f2) (by kernel_rfl) (by kernel_rfl) (fun _ => trivial) (by kernel_rfl) rfl (by kernel_rfl) (by kernel_rfl) (by kernel_rfl) (fun _ _ _ h => h) (SD.out) rfl (fun w0 hw0 => by have r0 := (blk_cell ((hw0.block _ (blk_lt RV.out)).trans RV.out) 2).trans rfl; go_simp) ?_
      simp only [Act.put, List.setIfInBounds_toArray, List.set_cons_zero, List.set_cons_succ]
      refine HR.take 21 (v := .pointer (some ⟨wr.heap.size, 3, none⟩)) (by kernel_rfl) (by kernel_rfl) (fun _ => trivial) (by kernel_rfl) rfl (by kernel_rfl) (by kernel_rfl) (by kernel_rfl) (fun _ _ _ h => h) (SD.out) rfl (fun w0 hw0 => by go_simp) ?_
      simp only [Act.put, List.setIfInBounds_toArray, List.set_cons_zero, List.set_cons_succ]
      refine HR.take 22 (v := .int .i64 pc.f1.f3) (by kernel_rfl) (by kernel_rfl) (fun _ => trivial) (by kernel_rfl) rfl (by kernel_rfl) (by kernel_rfl) (by kernel_rfl) (fun _ _ _ h => h) (SD.out) rfl (fun w0 hw0 => by have r0 := (blk_cell ((hw0.block _ (blk_lt RV.out)).trans RV.out) 3).trans rfl; go_simp) ?_
      simp only [Act.put, List.setIfInBounds_toArray, List.set_cons_zero, List.set_cons_succ]
      refine HR.one 7 (by kernel_rfl) rfl (fun K hK => ?_)
      go_simp
      refine ⟨trivial, (callsIn_wide.2 (miradorref13_Put.calls k a0_0 a0_1 a0_2 a0_3 a0_4 a0_5 a0_6 a0_7 a0_8 a0_9 pc.f0 ta _ G1.out)).mono ?_⟩
      rintro e z1 ⟨rfl, hb⟩
      have S_z1 := Lib.hid (SD.out.trans (hb.mono SD.out.size)); clear hb
      refine hK _ _ ⟨.inr S_z1.out, ?_⟩; clear hK K
      have hcc : (9223372036854775807 < acc.size + ta.size) = False := eq_false (by have := G6.out; omega)
      refine HR.take 8 (v := .string (acc ++ ta)) (by kernel_rfl) (by kernel_rfl) (fun _ => trivial) (by kernel_rfl) rfl (by kernel_rfl) (by kernel_rfl) (by kernel_rfl) (fun _ _ _ h => h) (S_z1.out) rfl (fun w0 hw0 => by go_simp) ?_
      simp only [Act.put, List.setIfInBounds_toArray, List.set_cons_zero, List.set_cons_succ]
      clear hcc
      refine HR.one 11 (by kernel_rfl) rfl (fun K hK => ?_)
      go_simp
      refine ⟨trivial, (callsIn_wide.2 (miradorref17_two.calls k pc.f1.f0 tb _ G2.out)).mono ?_⟩
      rintro e z2 ⟨rfl, hb⟩
      have S_z2 := Lib.hid (S_z1.out.trans (hb.mono S_z1.out.size)); clear hb
      refine hK _ _ ⟨.inr S_z2.out, ?_⟩; clear hK K
      have hcc : (9223372036854775807 < acc.size + ta.size + tb.size) = False := eq_false (by have := G6.out; omega)
      refine HR.take 12 (v := .string ((acc ++ ta) ++ tb)) (by kernel_rfl) (by kernel_rfl) (fun _ => trivial) (by kernel_rfl) rfl (by kernel_rfl) (by kernel_rfl) (by kernel_rfl) (fun _ _ _ h => h) (S_z2.out) rfl (fun w0 hw0 => by go_simp) ?_
      simp only [Act.put, List.setIfInBounds_toArray, List.set_cons_zero, List.set_cons_succ]
      clear hcc
      refine HR.one 15 (by kernel_rfl) rfl (fun K hK => ?_)
      go_simp
      refine ⟨trivial, (callsIn_wide.2 (miradorref17_two.calls k pc.f1.f1 tc _ G3.out)).mono ?_⟩
      rintro e z3 ⟨rfl, hb⟩
      have S_z3 := Lib.hid (S_z2.out.trans (hb.mono S_z2.out.size)); clear hb
      refine hK _ _ ⟨.inr S_z3.out, ?_⟩; clear hK K
      have hcc : (9223372036854775807 < acc.size + ta.size + tb.size + tc.size) = False := eq_false (by have := G6.out; omega)
      refine HR.take 16 (v := .string (((acc ++ ta) ++ tb) ++ tc)) (by kernel_rfl) (by kernel_rfl) (fun _ => trivial) (by kernel_rfl) rfl (by kernel_rfl) (by kernel_rfl) (by kernel_rfl) (fun _ _ _ h => h) (S_z3.out) rfl (fun w0 hw0 => by go_simp) ?_
      simp only [Act.put, List.setIfInBounds_toArray, List.set_cons_zero, List.set_cons_succ]
      clear hcc
      refine HR.one 19 (by kernel_rfl) rfl (fun K hK => ?_)
      go_simp
      refine ⟨trivial, (callsIn_wide.2 (miradorref17_two.calls k pc.f1.f2 td _ G4.out)).mono ?_⟩
      rintro e z4 ⟨rfl, hb⟩
      have S_z4 := Lib.hid (S_z3.out.trans (hb.mono S_z3.out.size)); clear hb
      refine hK _ _ ⟨.inr S_z4.out, ?_⟩; clear hK K
      have hcc : (9223372036854775807 < acc.size + ta.size + tb.size + tc.size + td.size) = False := eq_false (by have := G6.out; omega)
      refine HR.take 20 (v := .string ((((acc ++ ta) ++ tb) ++ tc) ++ td)) (by kernel_rfl) (by kernel_rfl) (fun _ => trivial) (by kernel_rfl) rfl (by kernel_rfl) (by kernel_rfl) (by kernel_rfl) (fun _ _ _ h => h) (S_z4.out) rfl (fun w0 hw0 => by go_simp) ?_
      simp only [Act.put, List.setIfInBounds_toArray, List.set_cons_zero, List.set_cons_succ]
      clear hcc
      refine HR.one 23 (by kernel_rfl) rfl (fun K hK => ?_)
      go_simp
      refine ⟨trivial, (callsIn_wide.2 (miradorref17_two.calls k pc.f1.f3 te _ G5.out)).mono ?_⟩
      rintro e z5 ⟨rfl, hb⟩
      have S_z5 := Lib.hid (S_z4.out.trans (hb.mono S_z4.out.size)); clear hb
      refine hK _ _ ⟨.inr S_z5.out, ?_⟩; clear hK K
      have hcc : (9223372036854775807 < acc.size + ta.size + tb.size + tc.size + td.size + te.size) = False := eq_false (by have := G6.out; omega)
      refine HR.take 24 (v := .string (((((acc ++ ta) ++ tb) ++ tc) ++ td) ++ te)) (by kernel_rfl) (by kernel_rfl) (fun _ => trivial) (by kernel_rfl) rfl (by kernel_rfl) (by kernel_rfl) (by kernel_rfl) (fun _ _ _ h => h) (S_z5.out) rfl (fun w0 hw0 => by go_simp) ?_
      simp only [Act.put, List.setIfInBounds_toArray, List.set_cons_zero, List.set_cons_succ]
      clear hcc
      refine HR.one 25 (by kernel_rfl) rfl (fun K hK => ?_)
      go_simp
      refine hK _ _ ⟨.inr S_z5.out, ?_⟩; clear hK K
      refine HR.done (by kernel_rfl) (show Exit.then _ _ Exit.normal _ _ from ?_) _
      have WZ := Lib.hid (BV.out.trans (S_z5.out.mono BV.out.size))
      go_wp2
      go_roundw
      case rel => exact ⟨i + 1, _, HL.out, by go_num, rfl, Lib.hid ⟨HW.out.1.trans (WZ.out.mono HW.out.1.size), (WZ.out.block _ (blk_lt HW.out.2.1)).trans HW.out.2.1, Kd.C_below HW.out.2.2 WZ.out⟩, G7⟩
      case measure => have := HL.out; simp [intOf]; omega
    · have hie : i = ps.length := by omega
      subst hie
      have d2 : decide ((ps.length : Int) < (ps.length : Int)) = false := decide_eq_false (by omega)
      have d3 : decide (ps.length < ps.length) = false := decide_eq_false (by omega)
      have hen := HX.out
      rw [List.drop_length] at hen
      obtain rfl : acc = R := by simpa [docL] using hen
      clear hen hlt hi HX
      go_wp2
      go_ret2
      exact ⟨rfl, HW.out.1⟩

end Go.Proofs.Ytkmfhfejogjnfaa.X
