/- What each Go function that these laws use answers: as a Lean function, with the proof that the machine's call comes to it. Written by a program of this session (xprint.py). -/
import Derived.Test.YtkmfhfejogjnfaaXx0
import Derived.Test.YtkmfhfejogjnfaaXx9
import Derived.Test.YtkmfhfejogjnfaaXx14
import Derived.Test.YtkmfhfejogjnfaaXx18
import Derived.Test.YtkmfhfejogjnfaaXx19
import Derived.Test.YtkmfhfejogjnfaaXx20
import Derived.Test.YtkmfhfejogjnfaaXx22
import Derived.Test.YtkmfhfejogjnfaaXx23
import Derived.Test.YtkmfhfejogjnfaaXx25
import Derived.Test.YtkmfhfejogjnfaaXx26
namespace Go.Proofs.Ytkmfhfejogjnfaa.X
open Go.RowKit Go.Proofs.YtkmfhfejogjnfaaW.PrintWords Go.Proofs.YtkmfhfejogjnfaaW.PrintLast Go.Proofs.YtkmfhfejogjnfaaW.PrintMore
attribute [local go_sem] max2_int min2_int max_two min_two max_three min_three max_four min_four   -- for this text's walks alone
set_option linter.unusedVariables false
set_option linter.unusedSimpArgs false

/-! ### rre_Decode: function 18 -/
theorem R_of_ints {w : World} {base : Nat} {v : Value} {l : List Int} (h : w.ownsRow base 3 1 v l.length (l.map (Value.int .i64))) : Kd.R (Kd.int .i64) 3 w base (fun _ => True) v l := by
  have key : ∀ l : List Int, Reps ((Kd.int .i64).M w base (fun k => True ∧ some k ≠ v.ownBlock)) 1 l (l.map (Value.int .i64)) := fun l => by
    induction l with
    | nil => exact Reps.none _ _
    | cons x l ih => exact Reps.front (rfl : (Kd.int .i64).M w base _ x [.int .i64 x]) rfl ih rfl
  exact ⟨fun _ _ => trivial, _, h, key l⟩
def rre_Decode.g (k : Nat) (a0_0 : Int) (a0_1 : Int) (a0_2 : Bool) (a0_3 : Bool) (a0_4 : Int) (a0_5 : Int) (a0_6 : Int) (a0_7 : Int) (a0_8 : Int) (a0_9 : Int) (a1 a2 : Int) (b1 : Int × CSt) (z : Int) : Option (List Int × Int × Int) :=
  (octets_Cursor_Bytes.f b1.2.1 b1.2.2.1 b1.2.2.2 z).bind fun b2 => (format_Get.f k a0_0 a0_1 a0_2 a0_3 a0_4 a0_5 a0_6 a0_7 a0_8 a0_9 b2.1).bind fun gt => if gt.2 = 0 then (format_Colour.f a0_0 a0_1 a0_2 a0_3 a0_4 a0_5 a0_6 a0_7 a0_8 a0_9 gt.1).bind fun c =>
    if 0 ≤ a1 ∧ a1 ≤ 4096 ∧ 0 ≤ a2 ∧ a2 ≤ 4096 ∧ 0 ≤ b1.1 ∧ b1.1 ≤ 4294967296 then (rre_draw.f k a0_0 a0_1 a0_2 a0_3 a0_4 a0_5 a0_6 a0_7 a0_8 a0_9 a1 a2 b1.1.toNat b2.2 (List.replicate (a1.toNat * a2.toNat) c)).bind fun r => if r.1 = 0 then some (r.2.2, r.2.1.2.1, 0) else some ([], 0, r.1) else none
  else some ([], 0, gt.2)
def rre_Decode.f (k : Nat) (a0_0 : Int) (a0_1 : Int) (a0_2 : Bool) (a0_3 : Bool) (a0_4 : Int) (a0_5 : Int) (a0_6 : Int) (a0_7 : Int) (a0_8 : Int) (a0_9 : Int) (a1 a2 : Int) (a3 : ByteArray) : Option (List Int × Int × Int) := (plain_Fits.f a0_0 a0_1 a0_2 a0_3 a0_4 a0_5 a0_6 a0_7 a0_8 a0_9 a1 a2).bind fun t => if t = true then (octets_Cursor_Int.f a3 0 0 4).bind fun b1 =>
  if b1.1 > wrap64 (a1 * a2) then some ([], 0, 4) else (format_Size.f a0_0 a0_1 a0_2 a0_3 a0_4 a0_5 a0_6 a0_7 a0_8 a0_9).bind fun z => rre_Decode.g k a0_0 a0_1 a0_2 a0_3 a0_4 a0_5 a0_6 a0_7 a0_8 a0_9 a1 a2 b1 z else some ([], 0, 1)
theorem rre_Decode.mono : ∀ a0 a1 a2 a3 a4 a5 a6 a7 a8 a9 a10 a11 a12 k, LeO (rre_Decode.f k a0 a1 a2 a3 a4 a5 a6 a7 a8 a9 a10 a11 a12) (rre_Decode.f (k + 1) a0 a1 a2 a3 a4 a5 a6 a7 a8 a9 a10 a11 a12) := by
  intro a0 a1 a2 a3 a4 a5 a6 a7 a8 a9 a10 a11 a12 k
  unfold rre_Decode.f
  refine LeO.bind (LeO.refl _) fun _ => LeO.ite (LeO.bind (LeO.refl _) fun _ => LeO.ite (LeO.refl _) (LeO.bind (LeO.refl _) fun _ => ?_)) (LeO.refl _)
  unfold rre_Decode.g
  exact LeO.bind (LeO.refl _) fun _ => LeO.bind (format_Get.mono _ _ _ _ _ _ _ _ _ _ _ _) fun _ => LeO.ite (LeO.bind (LeO.refl _) fun _ => LeO.ite (LeO.bind (rre_draw.mono _ _ _ _ _ _ _ _ _ _ _ _ _ _ _ _) fun _ => LeO.refl _) (LeO.refl _)) (LeO.refl _)
theorem own_oldD {W w' : World} {b : Nat} {o : Obj} (hg : W.grownBy w' none) (h : W.heap[b]? = some o) : w'.heap[b]? = some o := (hg.block b (blk_lt h) (by simp)).trans h
theorem fill_set (i m : Nat) (c : Int) : (List.replicate i c ++ List.replicate (m + 1) (0 : Int)).set i c = List.replicate (i + 1) c ++ List.replicate m 0 := by
  rw [List.set_append_right _ _ (by simp), List.length_replicate, Nat.sub_self, List.replicate_succ (n := m), List.set_cons_zero, List.replicate_succ' (n := i)]; simp
open Go.Shelf Go.Sort Go.Proofs.Ytkmfhfejogjnfaa
set_option maxHeartbeats 16000000 in
set_option maxRecDepth 100000 in
theorem rre_Decode.calls (k : Nat) (a0_0 : Int) (a0_1 : Int) (a0_2 : Bool) (a0_3 : Bool) (a0_4 : Int) (a0_5 : Int) (a0_6 : Int) (a0_7 : Int) (a0_8 : Int) (a0_9 : Int) (a1 : Int) (a2 : Int) (a3 : ByteArray) (r1 : List Int) (r2 : Int) (r3 : Int) (w : World) (h : rre_Decode.f k a0_0 a0_1 a0_2 a0_3 a0_4 a0_5 a0_6 a0_7 a0_8 a0_9 a1 a2 a3 = some (r1, r2, r3)) :
    Calls Try.prog 18 #[.agg #[.int .i64 a0_0, .int .i64 a0_1, .bool a0_2, .bool a0_3, .int .i64 a0_4, .int .i64 a0_5, .int .i64 a0_6, .int .i64 a0_7, .int .i64 a0_8, .int .i64 a0_9], .int .i64 a1, .int .i64 a2, .string a3] w fun e w' => ∃ v0_ : Value, e = .returned (.tuple #[v0_, .int .i64 r2, .int .i64 r3]) ∧ Kd.R (Kd.int .i64) 3 w' w.heap.size (fun _ => True) v0_ r1 ∧ Below w.heap.size w w' := by
  unfold rre_Decode.f at h
  obtain ⟨t, hf, h⟩ := Option.bind_eq_some_iff.1 h
  have B0 := Lib.hid (below_alloc (Below.refl w.heap.size w) (.cells #[.int .i64 a0_0, .int .i64 a0_1, .bool a0_2, .bool a0_3, .int .i64 a0_4, .int .i64 a0_5, .int .i64 a0_6, .int .i64 a0_7, .int .i64 a0_8, .int .i64 a0_9] 37))
  have K0 := Lib.hid (heap_alloc_new w (.cells #[.int .i64 a0_0, .int .i64 a0_1, .bool a0_2, .bool a0_3, .int .i64 a0_4, .int .i64 a0_5, .int .i64 a0_6, .int .i64 a0_7, .int .i64 a0_8, .int .i64 a0_9] 37))
  have Z0 := Lib.hid (show w.heap.size < (w.alloc (.cells #[.int .i64 a0_0, .int .i64 a0_1, .bool a0_2, .bool a0_3, .int .i64 a0_4, .int .i64 a0_5, .int .i64 a0_6, .int .i64 a0_7, .int .i64 a0_8, .int .i64 a0_9] 37)).heap.size by simp)
  have HF := Lib.hid hf; clear hf
  go_enter Try.func18, Try.ntmps18
  go_wp2_with fail
  refine (plain_Fits.calls a0_0 a0_1 a0_2 a0_3 a0_4 a0_5 a0_6 a0_7 a0_8 a0_9 a1 a2 t _ HF.out).mono ?_; rintro e y1 ⟨rfl, hb⟩
  have B1 := Lib.hid (B0.out.trans (hb.mono B0.out.size)); have K1 := Lib.hid ((hb.block _ Z0.out).trans K0.out); clear hb B0 K0 Z0
  cases t with
  | false =>
    rw [if_neg (by decide)] at h
    obtain ⟨rfl, rfl, rfl⟩ : [] = r1 ∧ (0 : Int) = r2 ∧ (1 : Int) = r3 := by have h8 := Option.some.inj h; exact ⟨congrArg (fun x => x.1) h8, congrArg (fun x => x.2.1) h8, congrArg (fun x => x.2.2) h8⟩
    clear h
    go_wp2
    go_ret3
    exact ⟨_, rfl, Kd.R_nil _ _ _ _ _, B1.out⟩
  | true =>
  rw [if_pos rfl] at h
  obtain ⟨⟨nn, s1⟩, hi1, h⟩ := Option.bind_eq_some_iff.1 h
  have HI1 := Lib.hid hi1; have H := Lib.hid h; clear hi1 h
  go_wp2_with fail
  refine (octets_New.calls a3 a3 0 0 w _ B1.out rfl).mono ?_; rintro e y2 ⟨g, rfl, hi, hb0, hb⟩
  have K2 := Lib.hid ((hb.block _ (blk_lt K1.out)).trans K1.out); have NG := Lib.hid (show w.heap.size ≠ g from (hi.ne_blk ((hb.block _ (blk_lt K1.out)).trans K1.out) (by decide)).symm)
  have C2 := Lib.hid (CW.start (st := (a3, 0, 0)) hi hb0); have GL := Lib.hid hi.ge; clear hi hb0 hb K1 B1
  go_wp2_with fail
  refine (octets_Cursor_Int.calls g a3 0 0 4 nn s1.1 s1.2.1 s1.2.2 w _ C2.out.st C2.out.below HI1.out).mono ?_; rintro e y3 ⟨rfl, hi, hb, hk⟩
  have C3 := Lib.hid (C2.out.call (st' := s1) hi hb hk); have K3 := Lib.hid (hk.blk K2.out NG.out (by simp)); clear hi hb hk C2
  obtain ⟨M, hM⟩ : ∃ M, wrap64 (a1 * a2) = M := ⟨_, rfl⟩
  by_cases hgt : nn > M
  · have h := H.out
    rw [hM, if_pos hgt] at h
    obtain ⟨rfl, rfl, rfl⟩ : [] = r1 ∧ (0 : Int) = r2 ∧ (4 : Int) = r3 := by have h8 := Option.some.inj h; exact ⟨congrArg (fun x => x.1) h8, congrArg (fun x => x.2.1) h8, congrArg (fun x => x.2.2) h8⟩
    have d1 : decide (M < nn) = true := decide_eq_true hgt
    clear h hgt
    go_wp2
    go_ret3
    exact ⟨_, rfl, Kd.R_nil _ _ _ _ _, C3.out.below⟩
  have h := H.out
  rw [hM, if_neg hgt] at h
  have d1 : decide (M < nn) = false := decide_eq_false hgt
  obtain ⟨z, hz, h⟩ := Option.bind_eq_some_iff.1 h
  unfold rre_Decode.g at h
  obtain ⟨⟨b, s2⟩, hb2, h⟩ := Option.bind_eq_some_iff.1 h
  obtain ⟨gt, hgt2, h⟩ := Option.bind_eq_some_iff.1 h
  have HZ := Lib.hid hz; have HB2 := Lib.hid hb2; have HGT := Lib.hid hgt2; have HH := Lib.hid h; clear hz hb2 hgt2 h hgt H
  go_wp2_with fail
  have CD := Lib.hid (C3.out.step (Below.drew (Below.refl _ _))); have KD := Lib.hid (show y3.drew.heap[w.heap.size]? = some (.cells #[.int .i64 a0_0, .int .i64 a0_1, .bool a0_2, .bool a0_3, .int .i64 a0_4, .int .i64 a0_5, .int .i64 a0_6, .int .i64 a0_7, .int .i64 a0_8, .int .i64 a0_9] 37 (0, 0)) from K3.out)
  clear d1
  refine (wpIn_wide (n := 4)).1 ?_
  refine RX.wpIn_only ?_
  refine HR.region [] (fun w' => w'.heap[w.heap.size]? = some (.cells #[.int .i64 a0_0, .int .i64 a0_1, .bool a0_2, .bool a0_3, .int .i64 a0_4, .int .i64 a0_5, .int .i64 a0_6, .int .i64 a0_7, .int .i64 a0_8, .int .i64 a0_9] 37 (0, 0))) (by kernel_rfl) ?_
  refine HR.take 0 (v := .agg #[.int .i64 a0_0, .int .i64 a0_1, .bool a0_2, .bool a0_3, .int .i64 a0_4, .int .i64 a0_5, .int .i64 a0_6, .int .i64 a0_7, .int .i64 a0_8, .int .i64 a0_9]) (by kernel_rfl) (by kernel_rfl) (fun _ => trivial) (by kernel_rfl) rfl (by kernel_rfl) (by kernel_rfl) (by kernel_rfl) (fun _ _ _ h => h) (KD.out) rfl (fun w0 hw0 => by have q0 := (blk_cell hw0 0).trans rfl; have q1 := (blk_cell hw0 1).trans rfl; have q2 := (blk_cell hw0 2).trans rfl; have q3 := (blk_cell hw0 3).trans rfl; have q4 := (blk_cell hw0 4).trans rfl; have q5 := (blk_cell hw0 5).trans rfl; have q6 := (blk_cell hw0 6).trans rfl; have q7 := (blk_cell hw0 7).trans rfl; have q8 := (blk_cell hw0 8).trans rfl; have q9 := (blk_cell hw0 9).trans rfl; go_simp) ?_
  simp only [Act.put, List.setIfInBounds_toArray, List.set_cons_zero, List.set_cons_succ]
  refine HR.take 1 (v := .pointer (some ⟨g, 0, none⟩)) (by kernel_rfl) (by kernel_rfl) (fun _ => trivial) (by kernel_rfl) rfl (by kernel_rfl) (by kernel_rfl) (by kernel_rfl) (fun _ _ _ h => h) (KD.out) rfl (fun w0 hw0 => by go_simp) ?_
  simp only [Act.put, List.setIfInBounds_toArray, List.set_cons_zero, List.set_cons_succ]
  refine HR.take 2 (v := .agg #[.int .i64 a0_0, .int .i64 a0_1, .bool a0_2, .bool a0_3, .int .i64 a0_4, .int .i64 a0_5, .int .i64 a0_6, .int .i64 a0_7, .int .i64 a0_8, .int .i64 a0_9]) (by kernel_rfl) (by kernel_rfl) (fun _ => trivial) (by kernel_rfl) rfl (by kernel_rfl) (by kernel_rfl) (by kernel_rfl) (fun _ _ _ h => h) (KD.out) rfl (fun w0 hw0 => by have q0 := (blk_cell hw0 0).trans rfl; have q1 := (blk_cell hw0 1).trans rfl; have q2 := (blk_cell hw0 2).trans rfl; have q3 := (blk_cell hw0 3).trans rfl; have q4 := (blk_cell hw0 4).trans rfl; have q5 := (blk_cell hw0 5).trans rfl; have q6 := (blk_cell hw0 6).trans rfl; have q7 := (blk_cell hw0 7).trans rfl; have q8 := (blk_cell hw0 8).trans rfl; have q9 := (blk_cell hw0 9).trans rfl; go_simp) ?_
  simp only [Act.put, List.setIfInBounds_toArray, List.set_cons_zero, List.set_cons_succ]
  refine HR.one 3 (by kernel_rfl) rfl (fun K hK => ?_)
  go_simp
  refine ⟨trivial, (callsIn_wide.2 (format_Size.calls a0_0 a0_1 a0_2 a0_3 a0_4 a0_5 a0_6 a0_7 a0_8 a0_9 z _ HZ.out)).mono ?_⟩
  rintro e y4 ⟨rfl, hb⟩
  have C4 := Lib.hid (CD.out.step hb); have K4 := Lib.hid ((hb.block _ (blk_lt KD.out)).trans KD.out); clear hb CD KD
  refine hK _ _ ⟨.inr K4.out, ?_⟩; clear hK K
  refine HR.one 4 (by kernel_rfl) rfl (fun K hK => ?_)
  go_simp
  refine ⟨trivial, (callsIn_wide.2 (octets_Cursor_Bytes.calls g s1.1 s1.2.1 s1.2.2 z b s2.1 s2.2.1 s2.2.2 w _ C4.out.st C4.out.below HB2.out)).mono ?_⟩
  rintro e y5 ⟨rfl, hi, hb, hk⟩
  have C5 := Lib.hid (C4.out.call (st' := s2) hi hb hk); have K5 := Lib.hid (hk.blk K4.out NG.out (by simp)); clear hi hb hk C4 K4
  refine hK _ _ ⟨.inr K5.out, ?_⟩; clear hK K
  refine HR.one 5 (by kernel_rfl) rfl (fun K hK => ?_)
  go_simp
  refine ⟨trivial, (callsIn_wide.2 (format_Get.calls k a0_0 a0_1 a0_2 a0_3 a0_4 a0_5 a0_6 a0_7 a0_8 a0_9 b gt.1 gt.2 _ HGT.out)).mono ?_⟩
  rintro e y6 ⟨rfl, hb⟩
  have C6 := Lib.hid (C5.out.step hb); have K6 := Lib.hid ((hb.block _ (blk_lt K5.out)).trans K5.out); clear hb C5 K5
  refine hK _ _ ⟨.inr K6.out, ?_⟩; clear hK K
  refine HR.one 6 (by kernel_rfl) rfl (fun K hK => ?_)
  go_simp
  refine hK _ _ ⟨.inr K6.out, ?_⟩; clear hK K
  refine HR.take 7 (v := .int .i64 gt.1) (by kernel_rfl) (by kernel_rfl) (fun _ => trivial) (by kernel_rfl) rfl (by kernel_rfl) (by kernel_rfl) (by kernel_rfl) (fun _ _ _ h => h) (K6.out) rfl (fun w0 hw0 => by go_simp) ?_
  simp only [Act.put, List.setIfInBounds_toArray, List.set_cons_zero, List.set_cons_succ]
  refine HR.take 8 (v := .int .i64 gt.2) (by kernel_rfl) (by kernel_rfl) (fun _ => trivial) (by kernel_rfl) rfl (by kernel_rfl) (by kernel_rfl) (by kernel_rfl) (fun _ _ _ h => h) (K6.out) rfl (fun w0 hw0 => by go_simp) ?_
  simp only [Act.put, List.setIfInBounds_toArray, List.set_cons_zero, List.set_cons_succ]
  refine HR.take 9 (v := .int .i64 gt.1) (by kernel_rfl) (by kernel_rfl) (fun _ => trivial) (by kernel_rfl) rfl (by kernel_rfl) (by kernel_rfl) (by kernel_rfl) (fun _ _ _ h => h) (K6.out) rfl (fun w0 hw0 => by go_simp) ?_
  simp only [Act.put, List.setIfInBounds_toArray, List.set_cons_zero, List.set_cons_succ]
  refine HR.one 10 (by kernel_rfl) rfl (fun K hK => ?_)
  go_simp
  refine hK _ _ ⟨.inr K6.out, ?_⟩; clear hK K
  refine HR.done (by kernel_rfl) (show Exit.then _ _ Exit.normal _ _ from ?_) _
  by_cases he : gt.2 = 0
  rotate_left
  · have h := HH.out
    rw [if_neg he] at h
    obtain ⟨rfl, rfl, rfl⟩ : [] = r1 ∧ (0 : Int) = r2 ∧ gt.2 = r3 := by have h8 := Option.some.inj h; exact ⟨congrArg (fun x => x.1) h8, congrArg (fun x => x.2.1) h8, congrArg (fun x => x.2.2) h8⟩
    have e1 : (gt.2 != 0) = true := by simpa using he
    have e2 : (gt.2 == 0) = false := by simpa using he
    clear he h
    go_wp2
    go_ret3
    exact ⟨_, rfl, Kd.R_nil _ _ _ _ _, C6.out.below⟩
  have h := HH.out
  rw [if_pos he] at h
  have e1 : (gt.2 != 0) = false := by simpa using he
  have e2 : (gt.2 == 0) = true := by simpa using he
  clear he
  obtain ⟨c, hc, h⟩ := Option.bind_eq_some_iff.1 h
  split at h
  rotate_left
  · cases h
  rename_i hcd
  obtain ⟨x1, x2, x3, x4, x5, x6⟩ := hcd
  obtain ⟨⟨er, st', pix'⟩, hdr, hfin⟩ := Option.bind_eq_some_iff.1 h; clear h
  obtain ⟨wd, rfl⟩ := Int.eq_ofNat_of_zero_le x1
  obtain ⟨ht, rfl⟩ := Int.eq_ofNat_of_zero_le x3
  obtain ⟨n2, rfl⟩ := Int.eq_ofNat_of_zero_le x5
  simp only [Int.toNat_natCast] at hdr
  obtain ⟨n, hn⟩ : ∃ n, wd * ht = n := ⟨_, rfl⟩
  have hn9 : n ≤ 16777216 := by rw [← hn]; exact Nat.mul_le_mul (show wd ≤ 4096 by omega) (show ht ≤ 4096 by omega)
  rw [hn] at hdr
  have hwm : wrap64 ((wd : Int) * (ht : Int)) = (n : Int) := cwM _ _ _ hn (by omega)
  obtain rfl : (n : Int) = M := hwm.symm.trans hM
  have HC := Lib.hid hc; have HDR := Lib.hid hdr; have H9 := Lib.hid hfin; have HNN := Lib.hid hn; have HWH := Lib.hid (show wd ≤ 4096 ∧ ht ≤ 4096 by omega); have HN2 := Lib.hid (show n2 ≤ 4294967296 by omega)
  obtain ⟨i0, hi, hzz⟩ := Option.map_eq_some_iff.1 info3
  simp only [Prod.mk.injEq] at hzz; obtain ⟨hz0, hz1, hz2⟩ := hzz
  have II := Lib.hid hi; have II0 := Lib.hid hz0; have II1 := Lib.hid hz1; have II2 := Lib.hid hz2
  clear hc hdr hfin hn hi hz0 hz1 hz2 x1 x2 x3 x4 x5 x6 HH HI1
  have hs6 : w.heap.size ≤ y6.heap.size := C6.out.below.size
  obtain ⟨y7, hrun, hown, hgr⟩ := run_make_full (P := Try.prog) y6 w.heap.size 22 3 i0 (.int .i64 0) 1 Try.underlying22 II.out II0.out II1.out .i64 .i64 n (by rw [II2.out]; omega) (by unfold maxLen; omega) hs6
  have OWN := Lib.hid hown; have HGR := Lib.hid hgr; clear hown hgr hs6
  go_wp2_with fail
  clear hrun
  obtain ⟨tb, htb⟩ : ∃ tb, y6.heap.size = tb := ⟨_, rfl⟩
  rw [htb] at OWN ⊢
  have D7 := Lib.hid (show DW w w g tb n (.cells #[.int .i64 a0_0, .int .i64 a0_1, .bool a0_2, .bool a0_3, .int .i64 a0_4, .int .i64 a0_5, .int .i64 a0_6, .int .i64 a0_7, .int .i64 a0_8, .int .i64 a0_9] 37 (0, 0)) s2 (List.replicate n 0) y7 by
      have hb := C6.out.below.grown HGR.out C6.out.below.size (fun _ h => by cases h)
      refine ⟨C6.out.st.grown HGR.out (by simp), hb, ?_, hb.size, fun i hi _ _ => hb.block i hi, own_oldD HGR.out K6.out⟩
      have ho := OWN.out
      rw [Nat.mul_one, show (Value.int .i64 0).cells = #[.int .i64 0] from rfl, toList_madeCells_one] at ho
      rw [List.map_replicate]; exact ho)
  have HTB := Lib.hid (show tb ≠ w.heap.size by have := blk_lt K6.out; omega)
  clear htb OWN HGR C6 K6
  go_loopw [50] (fun q w' => ∃ i : Nat, i ≤ n ∧ q = .int .i64 (i : Int) ∧ Hid (DW w w g tb n (.cells #[.int .i64 a0_0, .int .i64 a0_1, .bool a0_2, .bool a0_3, .int .i64 a0_4, .int .i64 a0_5, .int .i64 a0_6, .int .i64 a0_7, .int .i64 a0_8, .int .i64 a0_9] 37 (0, 0)) s2 (List.replicate i c ++ List.replicate (n - i) 0) w')) (fun q _ => n - (intOf q).toNat)
  case atStart => exact ⟨0, Nat.zero_le _, rfl, Lib.hid (by rw [List.replicate_zero, List.nil_append, Nat.sub_zero]; exact D7.out)⟩
  case round =>
    obtain ⟨i, hi, rfl, HD⟩ := hrel
    by_cases hlt : i < n
    · have d0 : decide ((i : Int) < (n : Int)) = true := decide_eq_true (by omega)
      have d2 : decide (i < n) = true := decide_eq_true hlt
      have p0 : (0 : Int) ≤ (i : Int) := by omega
      have p1 : (i : Int) < (n : Int) := by omega
      have HLT := Lib.hid hlt; have HK := Lib.hid HD.out.fmt; clear hlt hi
      have q0 := (blk_cell HK.out 0).trans rfl; have q1 := (blk_cell HK.out 1).trans rfl; have q2 := (blk_cell HK.out 2).trans rfl; have q3 := (blk_cell HK.out 3).trans rfl; have q4 := (blk_cell HK.out 4).trans rfl; have q5 := (blk_cell HK.out 5).trans rfl; have q6 := (blk_cell HK.out 6).trans rfl; have q7 := (blk_cell HK.out 7).trans rfl; have q8 := (blk_cell HK.out 8).trans rfl; have q9 := (blk_cell HK.out 9).trans rfl
      go_wp2_with fail
      clear q0 q1 q2 q3 q4 q5 q6 q7 q8 q9
      refine (format_Colour.calls a0_0 a0_1 a0_2 a0_3 a0_4 a0_5 a0_6 a0_7 a0_8 a0_9 gt.1 c _ HC.out).mono ?_; rintro e z1 ⟨rfl, hb⟩
      have HD1 := Lib.hid (HD.out.step hb); clear hb HD HK
      obtain ⟨⟨u_, hu⟩, hf⟩ := HD1.out.cell i HLT.out
      go_wp2
      go_roundw
      case rel =>
        have := HLT.out
        refine ⟨i + 1, by omega, by go_num, Lib.hid ?_⟩
        have h9 := HD1.out.put HTB.out i c
        rw [show n - i = (n - (i + 1)) + 1 by omega, fill_set] at h9
        exact h9
      case measure => have := HLT.out; simp [intOf]; omega
    · obtain rfl : i = n := by omega
      have d0 : decide ((i : Int) < (i : Int)) = false := decide_eq_false (by omega)
      have d2 : decide (i < i) = false := decide_eq_false hlt
      have HD2 := Lib.hid (show DW w w g tb i (.cells #[.int .i64 a0_0, .int .i64 a0_1, .bool a0_2, .bool a0_3, .int .i64 a0_4, .int .i64 a0_5, .int .i64 a0_6, .int .i64 a0_7, .int .i64 a0_8, .int .i64 a0_9] 37 (0, 0)) s2 (List.replicate i c) wr by have h9 := HD.out; rw [Nat.sub_self, List.replicate_zero, List.append_nil] at h9; exact h9)
      have HK := Lib.hid HD2.out.fmt; clear hlt hi HD
      have q0 := (blk_cell HK.out 0).trans rfl; have q1 := (blk_cell HK.out 1).trans rfl; have q2 := (blk_cell HK.out 2).trans rfl; have q3 := (blk_cell HK.out 3).trans rfl; have q4 := (blk_cell HK.out 4).trans rfl; have q5 := (blk_cell HK.out 5).trans rfl; have q6 := (blk_cell HK.out 6).trans rfl; have q7 := (blk_cell HK.out 7).trans rfl; have q8 := (blk_cell HK.out 8).trans rfl; have q9 := (blk_cell HK.out 9).trans rfl
      go_wp2_with fail
      clear q0 q1 q2 q3 q4 q5 q6 q7 q8 q9
      refine (rre_draw.calls k g tb i s2 st' a0_0 a0_1 a0_2 a0_3 a0_4 a0_5 a0_6 a0_7 a0_8 a0_9 wd ht n2 (List.replicate i c) pix' er w wr HD2.out.size HD2.out.st HD2.out.below HD2.out.own HNN.out.symm HWH.out.1 HWH.out.2 HN2.out HDR.out).mono ?_; rintro e z2 ⟨rfl, hd⟩
      have D9 := Lib.hid hd; have GW := Lib.hid (Nat.ne_of_gt HD2.out.st.lt); clear hd HD2 HK
      by_cases he : er = 0
      rotate_left
      · have h := H9.out
        rw [if_neg he] at h
        obtain ⟨rfl, rfl, rfl⟩ : [] = r1 ∧ (0 : Int) = r2 ∧ er = r3 := by have h8 := Option.some.inj h; exact ⟨congrArg (fun x => x.1) h8, congrArg (fun x => x.2.1) h8, congrArg (fun x => x.2.2) h8⟩
        have e3 : (er != 0) = true := by simpa using he
        have e4 : (er == 0) = false := by simpa using he
        clear he h
        go_wp2
        go_ret3
        exact ⟨_, rfl, Kd.R_nil _ _ _ _ _, D9.out.below⟩
      have h := H9.out
      rw [if_pos he] at h
      subst he
      obtain ⟨rfl, rfl, rfl⟩ : pix' = r1 ∧ st'.2.1 = r2 ∧ (0 : Int) = r3 := by have h8 := Option.some.inj h; exact ⟨congrArg (fun x => x.1) h8, congrArg (fun x => x.2.1) h8, congrArg (fun x => x.2.2) h8⟩
      clear h
      go_wp2_with fail
      refine (octets_Cursor_At.calls g st'.1 st'.2.1 st'.2.2 st'.2.1 st'.1 st'.2.1 st'.2.2 w _ D9.out.st D9.out.below rfl).mono ?_; rintro e z3 ⟨rfl, hi, hb, hk⟩
      have C9 := Lib.hid ((CW.start D9.out.st D9.out.below).call (st' := st') hi hb hk); clear hi hb hk
      have D10 := Lib.hid (D9.out.next GW.out C9.out); have HL := Lib.hid D9.out.len; clear D9 C9
      go_wp2
      go_ret3
      exact ⟨_, rfl, R_of_ints (by rw [HL.out]; exact D10.out.own), D10.out.below⟩

end Go.Proofs.Ytkmfhfejogjnfaa.X
