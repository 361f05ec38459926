/- What each Go function that these laws use answers: as a Lean function, with the proof that the machine's call comes to it. Written by a program of this session (xprint.py). -/
import Derived.Test.YtpackckoblpbfaaXx0
import Derived.Test.YtpackckoblpbfaaXx3
import Derived.Test.YtpackckoblpbfaaXx7
namespace Go.Proofs.Ytpackckoblpbfaa.X
open Go.RowKit Go.Proofs.YtpackckoblpbfaaW.PrintWords Go.Proofs.YtpackckoblpbfaaW.PrintLast Go.Proofs.YtpackckoblpbfaaW.PrintMore
attribute [local go_sem] max2_int min2_int max_two min_two max_three min_three max_four min_four   -- for this text's walks alone
set_option linter.unusedVariables false
set_option linter.unusedSimpArgs false

/-! ### servermsg_Result: function 17 -/
theorem servermsg_Result_low {B B' : Nat} {W W' : World} (h : Below B W W') (hl : B' ≤ B) : Below B' W W' := ⟨h.os, h.tape, h.output, h.size, fun k hk => h.block k (by omega)⟩
theorem servermsg_Result_nil (s : ByteArray) : s.toList = ([] : List UInt8) ↔ s.size = 0 := by
 constructor
 ·intro h
  have := congrArg List.length h
  rw [ByteArray.toList_eq, Array.length_toList] at this
  exact this
 ·intro h
  rw [ByteArray.toList_eq]
  exact List.eq_nil_of_length_eq_zero (by rw [Array.length_toList]; exact h)
def servermsg_Result.f (a0 : ByteArray) : Option (ByteArray) := if a0.size = 0 then (wInts 4 [0] ([], 0)).bind fun st => some ⟨st.1.toArray⟩ else if a0.size ≤ 140737488351232 then (wInts 4 [1] ([], 0)).bind fun st => (wText st (a0.extract 0 (min a0.size 4096))).bind fun st2 => some ⟨st2.1.toArray⟩ else none
set_option maxHeartbeats 4000000 in
set_option maxRecDepth 100000 in
theorem servermsg_Result.calls (a0 : ByteArray) (r : ByteArray) (w : World) (h : servermsg_Result.f a0 = some r) :
  Calls Try.prog 17 #[.string a0] w fun e w' => e = .returned (.string r) ∧ Below w.heap.size w w' := by
 unfold servermsg_Result.f at h
 obtain ⟨W0, hW0⟩ : ∃ W0, w.alloc (.cells #[.pointer none, .slice none 0 0, .int .i64 0] 76) = W0 := ⟨_, rfl⟩
 have HB0 := Lib.hid (show Below w.heap.size W0 W0 from Below.refl _ _)
 have HBW := Lib.hid (show Below w.heap.size w W0 from by rw [← hW0]; exact below_alloc (Below.refl _ _) _)
 have HL0 := Lib.hid (show w.heap.size ≤ W0.heap.size from by rw [← hW0]; simp)
 have HW0 := Lib.hid (show Wr w.heap.size w.heap.size [] 0 none W0 from Wr.new (by rw [← hW0]; exact heap_alloc_new w _) (Nat.le_refl _))
 by_cases hz : a0.size = 0
 ·rw [if_pos hz] at h
  obtain ⟨st, e1, h⟩ := Option.bind_eq_some_iff.1 h
  obtain rfl := Option.some.inj h
  have E1 := Lib.hid e1
  have hn : a0.toList = ([] : List UInt8) := (servermsg_Result_nil a0).2 hz
  clear h e1 hz
  go_enter Try.func17, Try.ntmps17
  go_wp2_with fail
  try rw [hW0]
  clear hW0
  refine (ints_c w.heap.size w.heap.size [] 0 none 4 (some ⟨W0.heap.size, 0, none⟩) 1 [0] st _ (HW0.out.below (below_alloc (Below.refl _ _) _)) (by have := HL0.out; simp; omega) (by simp) (fresh_row [0] (by simp) HW0.out.lt (fun k hk => (HW0.out.row_ k hk).2) _ rfl) E1.out).mono ?_
  rintro en W1 ⟨rfl, row1, h1, h2, h3, h4⟩
  have HW1 := Lib.hid h1
  have HB1 := Lib.hid (HB0.out.trans ((below_alloc (Below.refl W0.heap.size W0) _).mono HL0.out |>.trans h3))
  have HL1 := Lib.hid (Nat.le_trans HL0.out HB1.out.size)
  clear h1 h2 h3 h4
  go_wp2_with fail
  obtain ⟨cs, hbat, _, _⟩ := HW1.out
  refine (BL.String_c _ w.heap.size w.heap.size 0 cs row1 st.1 W1 hbat HL1.out).mono ?_
  rintro en Wz ⟨rfl, h3⟩
  have HBz := Lib.hid (HBW.out.trans (HB1.out.trans h3))
  clear h3 hbat
  go_wp2_with fail
  go_ret
  exact ⟨rfl, HBz.out⟩
 ·rw [if_neg hz] at h
  by_cases hlen : a0.size ≤ 140737488351232
  case neg => rw [if_neg hlen] at h; cases h
  rw [if_pos hlen] at h
  obtain ⟨st, e1, h⟩ := Option.bind_eq_some_iff.1 h
  obtain ⟨st2, e2, h⟩ := Option.bind_eq_some_iff.1 h
  obtain rfl := Option.some.inj h
  have E1 := Lib.hid e1
  have hnb : a0.toList.isEmpty = false := by cases hh : a0.toList with | nil => exact absurd ((servermsg_Result_nil a0).1 hh) hz | cons x l => rfl
  have hnb2 : (!a0.toList.isEmpty) = true := by rw [hnb]; rfl
  have hm1 : min (a0.size : Int) 4096 = ((min a0.size 4096 : Nat) : Int) := by omega
  obtain ⟨m, hm⟩ : ∃ m, min a0.size 4096 = m := ⟨_, rfl⟩
  rw [hm] at e2 hm1
  have hmb : m ≤ a0.size := by omega
  have hmi : (m : Int) ≤ (a0.size : Int) := by omega
  have hm0 : (0 : Int) ≤ (m : Int) := by omega
  have E2 := Lib.hid e2
  have HLEN := Lib.hid hlen
  clear h e1 e2 hm hz hlen
  go_enter Try.func17, Try.ntmps17
  go_wp2_with fail
  try rw [hW0]
  clear hW0
  refine (ints_c w.heap.size w.heap.size [] 0 none 4 (some ⟨W0.heap.size, 0, none⟩) 1 [1] st _ (HW0.out.below (below_alloc (Below.refl _ _) _)) (by have := HL0.out; simp; omega) (by simp) (fresh_row [1] (by simp) HW0.out.lt (fun k hk => (HW0.out.row_ k hk).2) _ rfl) E1.out).mono ?_
  rintro en W1 ⟨rfl, row1, h1, h2, h3, h4⟩
  have HW1 := Lib.hid h1
  have HB1 := Lib.hid (HB0.out.trans ((below_alloc (Below.refl W0.heap.size W0) _).mono HL0.out |>.trans h3))
  have HL1 := Lib.hid (Nat.le_trans HL0.out HB1.out.size)
  clear h1 h2 h3 h4
  go_wp2_with fail
  all_goals have E2x := E2.out
  ·have hm4 : m = 4096 := by omega
   rw [hm4] at E2x
   have E3 := Lib.hid E2x
   clear E2x
   refine (text_c w.heap.size w.heap.size st.1 st.2 row1 (a0.extract 0 4096) st2 W1 HW1.out HL1.out (by have := HLEN.out; rw [ByteArray.size_extract]; omega) E3.out).mono ?_
   rintro en W2 ⟨rfl, row2, h1, h2, h3, h4⟩
   have HW2 := Lib.hid h1
   have HB2 := Lib.hid (HB1.out.trans (h3))
   have HL2 := Lib.hid (Nat.le_trans HL0.out HB2.out.size)
   clear h1 h2 h3 h4
   go_wp2_with fail
   obtain ⟨cs, hbat, _, _⟩ := HW2.out
   refine (BL.String_c _ w.heap.size w.heap.size 0 cs row2 st2.1 W2 hbat HL2.out).mono ?_
   rintro en Wz ⟨rfl, h3⟩
   have HBz := Lib.hid (HBW.out.trans (HB2.out.trans h3))
   clear h3 hbat
   go_wp2_with fail
   go_ret
   exact ⟨rfl, HBz.out⟩
  ·have hm4 : m = a0.size := by omega
   rw [hm4, ByteArray.extract_zero_size] at E2x
   have E3 := Lib.hid E2x
   clear E2x
   refine (text_c w.heap.size w.heap.size st.1 st.2 row1 a0 st2 W1 HW1.out HL1.out HLEN.out E3.out).mono ?_
   rintro en W2 ⟨rfl, row2, h1, h2, h3, h4⟩
   have HW2 := Lib.hid h1
   have HB2 := Lib.hid (HB1.out.trans (h3))
   have HL2 := Lib.hid (Nat.le_trans HL0.out HB2.out.size)
   clear h1 h2 h3 h4
   go_wp2_with fail
   obtain ⟨cs, hbat, _, _⟩ := HW2.out
   refine (BL.String_c _ w.heap.size w.heap.size 0 cs row2 st2.1 W2 hbat HL2.out).mono ?_
   rintro en Wz ⟨rfl, h3⟩
   have HBz := Lib.hid (HBW.out.trans (HB2.out.trans h3))
   clear h3 hbat
   go_wp2_with fail
   go_ret
   exact ⟨rfl, HBz.out⟩

/-- A state of type 142 at block g of W; what its slices lead to came in by w0. -/
def IsS142 (w0 W : World) (g : Nat) (f0 : ByteArray) (f1 : Int) (f2 : Int) : Prop := W.heap[g]? = some (.cells #[.string f0, .int .i64 f1, .int .i64 f2] 142 (0, 0)) ∧ w0.heap.size ≤ g
theorem IsS142.grown {w0 W : World} {g : Nat} {f0 : ByteArray} {f1 : Int} {f2 : Int} {W1 : World} {row : Option Nat} (h : IsS142 w0 W g f0 f1 f2) (hw : W.grownBy W1 row) (hne : some g ≠ row) : IsS142 w0 W1 g f0 f1 f2 := by
 obtain ⟨hb, hg⟩ := h
 exact ⟨blk_grown hb hw hne, hg⟩
theorem IsS142.own_neN {w0 W : World} {g : Nat} {f0 : ByteArray} {f1 : Int} {f2 : Int} {α : Type} {d : Kd α} {e : Nat} {base : Nat} {ok : Nat → Prop} {v : Value} {xs : List α} (h : IsS142 w0 W g f0 f1 f2) (ho : Kd.N d e W base ok v xs) (ht : e ≠ 142) : some g ≠ v.ownBlock := by
 obtain ⟨hb, hg⟩ := h
 exact Kd.N_ne ho hb ht
theorem IsS142.fresh {w0 W : World} {g : Nat} {f0 : ByteArray} {f1 : Int} {f2 : Int} (h : IsS142 w0 W g f0 f1 f2) : ∀ k, W.heap.size ≤ k → k ≠ g := by
 obtain ⟨hb, hg⟩ := h
 exact Kd.freshB hb
theorem IsS142.kept {w0 W : World} {g : Nat} {f0 : ByteArray} {f1 : Int} {f2 : Int} {W1 : World} {S : Nat → Prop} (h : IsS142 w0 W g f0 f1 f2) (hk : Kept W W1 S) (hne : ¬ S g) : IsS142 w0 W1 g f0 f1 f2 := by
 obtain ⟨hb, hg⟩ := h
 exact ⟨blk_kept hb hk hne, hg⟩
theorem IsS142.below {w0 W : World} {g : Nat} {f0 : ByteArray} {f1 : Int} {f2 : Int} {W1 : World} (h : IsS142 w0 W g f0 f1 f2) (hw : Below W.heap.size W W1) : IsS142 w0 W1 g f0 f1 f2 := h.grown (grown_of_below hw none) (by simp)
theorem IsS142.alloc {w0 W : World} {g : Nat} {f0 : ByteArray} {f1 : Int} {f2 : Int} (h : IsS142 w0 W g f0 f1 f2) (o : Obj) : IsS142 w0 (W.alloc o) g f0 f1 f2 := h.below (below_alloc (Below.refl _ _) o)
theorem IsS142.drewN {w0 W : World} {g : Nat} {f0 : ByteArray} {f1 : Int} {f2 : Int} (h : IsS142 w0 W g f0 f1 f2) (m : Nat) : IsS142 w0 (W.drewN m) g f0 f1 f2 := h
theorem IsS142.drew {w0 W : World} {g : Nat} {f0 : ByteArray} {f1 : Int} {f2 : Int} (h : IsS142 w0 W g f0 f1 f2) : IsS142 w0 W.drew g f0 f1 f2 := h
theorem IsS142.at_ {w0 W : World} {g : Nat} {f0 : ByteArray} {f1 : Int} {f2 : Int} {w' : World} {m : Nat} (hq : W.drewN m = w') (h : IsS142 w0 W g f0 f1 f2) : IsS142 w0 w' g f0 f1 f2 := by subst hq; exact IsS142.drewN h m
theorem IsS142.apart {w0 W : World} {g : Nat} {f0 : ByteArray} {f1 : Int} {f2 : Int} {α : Type} {d : Kd α} {e : Nat} {base : Nat} {ok : Nat → Prop} {v : Value} {xs : List α} (h : IsS142 w0 W g f0 f1 f2) (ho : d.R e W base ok v xs) (ht : ∀ q, q ∈ e :: d.E → q ≠ 142) : d.R e W base (fun k => ok k ∧ k ≠ g) v xs := by
 obtain ⟨hb, hg⟩ := h
 exact Kd.R_types ho hb ht
theorem IsS142.own_ne {w0 W : World} {g : Nat} {f0 : ByteArray} {f1 : Int} {f2 : Int} {α : Type} {d : Kd α} {e : Nat} {base : Nat} {ok : Nat → Prop} {v : Value} {xs : List α} (h : IsS142 w0 W g f0 f1 f2) (ho : d.R e W base ok v xs) (ht : e ≠ 142) : some g ≠ v.ownBlock := by
 obtain ⟨hb, hg⟩ := h
 exact Kd.R_ne ho hb ht
theorem IsS142.apartQ {w0 W : World} {g : Nat} {f0 : ByteArray} {f1 : Int} {f2 : Int} {α : Type} {d : Kd α} {e : Nat} {base : Nat} {ok : Nat → Prop} {v : Value} {xs : List α} (h : IsS142 w0 W g f0 f1 f2) (ho : d.Q e W base ok v xs) (ht : ∀ q, q ∈ e :: d.E → q ≠ 142) : d.Q e W base (fun k => ok k ∧ k ≠ g) v xs := by
 obtain ⟨hb, hg⟩ := h
 exact Kd.Q_types ho hb ht
theorem IsS142.own_neQ {w0 W : World} {g : Nat} {f0 : ByteArray} {f1 : Int} {f2 : Int} {α : Type} {d : Kd α} {e : Nat} {base : Nat} {ok : Nat → Prop} {v : Value} {xs : List α} (h : IsS142 w0 W g f0 f1 f2) (ho : d.Q e W base ok v xs) (ht : e ≠ 142) : some g ≠ v.ownBlock := by
 obtain ⟨hb, hg⟩ := h
 exact Kd.Q_ne ho hb ht
theorem IsS142.apartS {w0 W : World} {g : Nat} {f0 : ByteArray} {f1 : Int} {f2 : Int} {α : Type} {d : Kd α} {e : Nat} {base : Nat} {ok : Nat → Prop} {v : Value} {xs : List α} (h : IsS142 w0 W g f0 f1 f2) (ho : d.S e W base ok v xs) (ht : ∀ q, q ∈ e :: d.E → q ≠ 142) : d.S e W base (fun k => ok k ∧ k ≠ g) v xs := by
 obtain ⟨hb, hg⟩ := h
 exact Kd.S_types ho hb ht
theorem IsS142.own_neS {w0 W : World} {g : Nat} {f0 : ByteArray} {f1 : Int} {f2 : Int} {α : Type} {d : Kd α} {e : Nat} {base : Nat} {ok : Nat → Prop} {v : Value} {xs : List α} (h : IsS142 w0 W g f0 f1 f2) (ho : d.S e W base ok v xs) (ht : e ≠ 142) : some g ≠ v.ownBlock := by
 obtain ⟨hb, hg⟩ := h
 exact Kd.S_ne ho hb ht
theorem IsS142.lt {w0 W : World} {g : Nat} {f0 : ByteArray} {f1 : Int} {f2 : Int} (h : IsS142 w0 W g f0 f1 f2) : g < W.heap.size := by
 obtain ⟨hb, hg⟩ := h
 exact blk_lt hb
theorem IsS142.ge {w0 W : World} {g : Nat} {f0 : ByteArray} {f1 : Int} {f2 : Int} (h : IsS142 w0 W g f0 f1 f2) : w0.heap.size ≤ g := by
 obtain ⟨hb, hg⟩ := h
 exact hg
theorem IsS142.ne_blk {w0 W : World} {g : Nat} {f0 : ByteArray} {f1 : Int} {f2 : Int} {a : Nat} {cs : Array Value} {t : TypeId} {fr : Nat × Nat} (h : IsS142 w0 W g f0 f1 f2) (hb2 : W.heap[a]? = some (.cells cs t fr)) (ht : t ≠ 142) : g ≠ a := by
 obtain ⟨hb, hg⟩ := h
 rintro rfl
 rw [hb] at hb2
 injection hb2 with hb2
 injection hb2 with _ ht2
 exact ht ht2.symm
theorem IsS142.far {w0 W : World} {g : Nat} {f0 : ByteArray} {f1 : Int} {f2 : Int} {p : Addr} (h : IsS142 w0 W g f0 f1 f2) (hne : g ≠ p.block) (u : Value) : IsS142 w0 (W.setCell p u) g f0 f1 f2 := by
 obtain ⟨hb, hg⟩ := h
 exact ⟨blk_far hb hne u, hg⟩
theorem IsS142.keepB {w0 W : World} {g : Nat} {f0 : ByteArray} {f1 : Int} {f2 : Int} {W1 : World} {g2 : Nat} (h : IsS142 w0 W g f0 f1 f2) (hk : KeepBut W W1 g2 none) (hne : g ≠ g2) : IsS142 w0 W1 g f0 f1 f2 := by
 obtain ⟨hb, hg⟩ := h
 exact ⟨KeepBut.blk hk hb hne (by simp), hg⟩
theorem cellS142_0 {W : World} {g : Nat} {f0 : ByteArray} {f1 : Int} {f2 : Int} (h : W.heap[g]? = some (.cells #[.string f0, .int .i64 f1, .int .i64 f2] 142 (0, 0))) : W.cell? ⟨g, 0, none⟩ = some (.string f0) := (blk_cell h 0).trans rfl
theorem IsS142.set_0 {w0 W : World} {g : Nat} {f0 : ByteArray} {f1 : Int} {f2 : Int} (h : IsS142 w0 W g f0 f1 f2) (x : ByteArray) : IsS142 w0 (W.setCell ⟨g, 0, none⟩ (.string x)) g x f1 f2 := by
 obtain ⟨hb, hg⟩ := h
 exact ⟨by simpa using blk_set hb 0 (.string x), hg⟩
theorem cellS142_1 {W : World} {g : Nat} {f0 : ByteArray} {f1 : Int} {f2 : Int} (h : W.heap[g]? = some (.cells #[.string f0, .int .i64 f1, .int .i64 f2] 142 (0, 0))) : W.cell? ⟨g, 1, none⟩ = some (.int .i64 f1) := (blk_cell h 1).trans rfl
theorem IsS142.set_1 {w0 W : World} {g : Nat} {f0 : ByteArray} {f1 : Int} {f2 : Int} (h : IsS142 w0 W g f0 f1 f2) (x : Int) : IsS142 w0 (W.setCell ⟨g, 1, none⟩ (.int .i64 x)) g f0 x f2 := by
 obtain ⟨hb, hg⟩ := h
 exact ⟨by simpa using blk_set hb 1 (.int .i64 x), hg⟩
theorem cellS142_2 {W : World} {g : Nat} {f0 : ByteArray} {f1 : Int} {f2 : Int} (h : W.heap[g]? = some (.cells #[.string f0, .int .i64 f1, .int .i64 f2] 142 (0, 0))) : W.cell? ⟨g, 2, none⟩ = some (.int .i64 f2) := (blk_cell h 2).trans rfl
theorem IsS142.set_2 {w0 W : World} {g : Nat} {f0 : ByteArray} {f1 : Int} {f2 : Int} (h : IsS142 w0 W g f0 f1 f2) (x : Int) : IsS142 w0 (W.setCell ⟨g, 2, none⟩ (.int .i64 x)) g f0 f1 x := by
 obtain ⟨hb, hg⟩ := h
 exact ⟨by simpa using blk_set hb 2 (.int .i64 x), hg⟩
theorem IsS142.new (w0 W : World) (f0 : ByteArray) (f1 : Int) (f2 : Int) (hB : Below w0.heap.size w0 W) : IsS142 w0 (W.alloc (.cells #[.string f0, .int .i64 f1, .int .i64 f2] 142)) W.heap.size f0 f1 f2 := ⟨by simpa using heap_alloc_new W _, hB.size⟩

/-! ### octets_Cursor_fail: function 85 -/
def octets_Cursor_fail.f (s0_0 : ByteArray) (s0_1 : Int) (s0_2 : Int) (a1 : Int) : Option (ByteArray × Int × Int) := if s0_2 = 0 then (some (s0_0, s0_1, a1)) else (some (s0_0, s0_1, s0_2))
set_option maxHeartbeats 8000000 in
set_option maxRecDepth 100000 in
theorem octets_Cursor_fail.calls (g : Nat) (s0_0 : ByteArray) (s0_1 : Int) (s0_2 : Int) (a1 : Int) (r1 : ByteArray) (r2 : Int) (r3 : Int) (w0 w : World) (hI : IsS142 w0 w g s0_0 s0_1 s0_2) (hB : Below w0.heap.size w0 w) (h : octets_Cursor_fail.f s0_0 s0_1 s0_2 a1 = some (r1, r2, r3)) :
  Calls Try.prog 85 #[.pointer (some ⟨g, 0, none⟩), .int .i64 a1] w fun e w' => e = .returned (.tuple #[]) ∧ IsS142 w0 w' g r1 r2 r3 ∧ Below w0.heap.size w0 w' ∧ KeepBut w w' g none := by
 have HI0 := Aside0.mk hI
 have HK := Aside0.mk (KeepBut.refl w g none)
 have HL := Aside0.mk hB.size
 clear hI
 have HW0 := Aside0.mk hB.size
 have HB := Aside0.mk hB
 clear hB
 have H : (if s0_2 = 0 then (some (s0_0, s0_1, a1)) else (some (s0_0, s0_1, s0_2))) = some (r1, r2, r3) := h
 clear h
 by_cases c3 : s0_2 = 0
 ·rw [if_pos c3] at H
  have c3b0 : (s0_2 == 0) = true := beq_iff_eq.mpr c3
  have c3b1 : (s0_2 != 0) = false := bne_eq_false_iff_eq.mpr c3
  clear c3
  simp only [Option.some.injEq, Prod.mk.injEq] at H
  obtain ⟨rfl, rfl, rfl⟩ := H
  obtain ⟨HGz4, hgz4⟩ := HI0.out
  have hcz4_0 := cellS142_0 HGz4
  have hcz4_1 := cellS142_1 HGz4
  have hcz4_2 := cellS142_2 HGz4
  have hfz4_0 := blk_frozen HGz4 0
  have hfz4_1 := blk_frozen HGz4 1
  have hfz4_2 := blk_frozen HGz4 2
  clear HGz4 hgz4
  go_enter Try.func85, Try.ntmps85
  go_wp2
  first | go_end0 | ((try simp only [Exit.inBlock, Exit.then]); refine bodyPost_ret (results_none rfl _ _ _) rfl ?_)
  exact ⟨by first | rfl | (simp [errW_none, errW_some] <;> rfl) | (simp [*, errW_none, errW_some] <;> rfl), by repeat (first | (with_reducible first | exact HI0.out | apply IsS142.alloc | apply IsS142.drewN | apply IsS142.drew | apply IsS142.set_0 | apply IsS142.set_1 | apply IsS142.set_2) | exact HI0.out), by repeat (first | (with_reducible first | exact HB.out | apply below_alloc | apply pw_below_drewN | apply below_drew1 | refine below_set ?_ (IsS142.ge HI0.out)) | exact HB.out), by repeat (first | (with_reducible first | exact HK.out | apply KeepBut.set_ | apply keep_drewN | apply keep_drew | apply keep_alloc) | exact HK.out)⟩
 ·rw [if_neg c3] at H
  have c3b0 : (s0_2 == 0) = false := beq_eq_false_iff_ne.mpr c3
  have c3b1 : (s0_2 != 0) = true := bne_iff_ne.mpr c3
  simp only [Option.some.injEq, Prod.mk.injEq] at H
  obtain ⟨rfl, rfl, rfl⟩ := H
  obtain ⟨HGz5, hgz5⟩ := HI0.out
  have hcz5_0 := cellS142_0 HGz5
  have hcz5_1 := cellS142_1 HGz5
  have hcz5_2 := cellS142_2 HGz5
  have hfz5_0 := blk_frozen HGz5 0
  have hfz5_1 := blk_frozen HGz5 1
  have hfz5_2 := blk_frozen HGz5 2
  clear HGz5 hgz5
  go_enter Try.func85, Try.ntmps85
  go_wp2
  first | go_end0 | ((try simp only [Exit.inBlock, Exit.then]); refine bodyPost_ret (results_none rfl _ _ _) rfl ?_)
  exact ⟨by first | rfl | (simp [errW_none, errW_some] <;> rfl) | (simp [*, errW_none, errW_some] <;> rfl), by repeat (first | (with_reducible first | exact HI0.out | apply IsS142.alloc | apply IsS142.drewN | apply IsS142.drew | apply IsS142.set_0 | apply IsS142.set_1 | apply IsS142.set_2) | exact HI0.out), by repeat (first | (with_reducible first | exact HB.out | apply below_alloc | apply pw_below_drewN | apply below_drew1 | refine below_set ?_ (IsS142.ge HI0.out)) | exact HB.out), by repeat (first | (with_reducible first | exact HK.out | apply KeepBut.set_ | apply keep_drewN | apply keep_drew | apply keep_alloc) | exact HK.out)⟩

end Go.Proofs.Ytpackckoblpbfaa.X
