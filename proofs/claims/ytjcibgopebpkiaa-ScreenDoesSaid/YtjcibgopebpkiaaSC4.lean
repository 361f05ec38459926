/- A screen by its places: Fill and Part where they may not be. No condition. -/
import Derived.Test.YtjcibgopebpkiaaSC3
namespace Go.Proofs.Ytjcibgopebpkiaa.SC
open Go.RowKit Go.Shelf Go.Proofs.YtjcibgopebpkiaaW.PrintWords Go.Proofs.YtjcibgopebpkiaaW.PrintLast Go.Proofs.YtjcibgopebpkiaaW.PrintMore Go.Proofs.Ytjcibgopebpkiaa.B Go.Proofs.Ytjcibgopebpkiaa.SCP
set_option linter.unusedVariables false
set_option linter.unusedSimpArgs false
set_option maxHeartbeats 4000000 in
set_option maxRecDepth 100000 in
theorem Fill_out (B g rb : Nat) (w h : Int) (F : Nat → Int) (x y rw rh c : Int) (W : World) (hs : SIs B g rb w h F W) (hin : ¬ inside x y rw rh w h) :
    Calls Try.prog 18 #[.pointer (some ⟨g, 0, none⟩), .agg #[.int .i64 x, .int .i64 y, .int .i64 rw, .int .i64 rh], .int .i64 c] W fun e W' => e = .returned (.int .i64 140) ∧ Below W.heap.size W W' := by
  obtain ⟨c0, c1, c2⟩ := hs.cells
  have hf := inside_f x y rw rh w h hs.2.2.2
  rw [decide_eq_false hin] at hf
  have HF := Lib.hid hf
  have hlt := hs.lt
  clear hf hs hin
  refine (callsIn_wide (n := 4)).1 ?_
  refine callsIn_of_wp Try.func18 rfl trivial ?_ rfl
  simp only [Try.ntmps18, List.size_toArray, List.length_cons, List.length_nil, Nat.reduceAdd, Nat.reduceSub, Array.replicate_succ, Array.replicate_zero, List.push_toArray, List.append_toArray, List.nil_append, List.cons_append]
  gi_wp2
  refine wpIn_split (fun w1 => Below (W.heap.size + 2) ((W.alloc (.cells #[.int .i64 x, .int .i64 y, .int .i64 rw, .int .i64 rh] 30)).alloc (.cells #[.int .i64 c] 3)) w1) ?_
  apply Exists.intro
  refine ⟨?h1, ?h2⟩
  case h1 =>
    gi_region_with (refine ⟨trivial, ?_⟩; gi_at_call 31; refine (callsIn_wide.2 (X.screen_Inside.calls x y rw rh w h false _ HF.out)).mono ?_; rintro e w1 ⟨rfl, hb1⟩)
    all_goals
      simp only [onlyN]
      refine ⟨rfl, ?_⟩
      refine Below.trans ?_ (Below.mono hb1 (by simp))
      exact Below.drew (Below.refl _ _)
  rintro w1 hb1
  gi_wp2
  go_ret
  exact ⟨rfl, (below_alloc (below_alloc (Below.refl _ _) _) _).trans (Below.mono hb1 (by omega))⟩
set_option maxHeartbeats 4000000 in
set_option maxRecDepth 100000 in
theorem Fill_odd (B g rb : Nat) (w h : Int) (F : Nat → Int) (x y rw rh c : Int) (W : World) (hs : SIs B g rb w h F W) (hin : inside x y rw rh w h) (hc : ¬ (0 ≤ c ∧ c ≤ 16777215)) :
    Calls Try.prog 18 #[.pointer (some ⟨g, 0, none⟩), .agg #[.int .i64 x, .int .i64 y, .int .i64 rw, .int .i64 rh], .int .i64 c] W fun e W' => e = .returned (.int .i64 1) ∧ Below W.heap.size W W' := by
  obtain ⟨c0, c1, c2⟩ := hs.cells
  have hf := inside_f x y rw rh w h hs.2.2.2
  rw [decide_eq_true hin] at hf
  have hf2 := colour_f c
  rw [decide_eq_false hc] at hf2
  have HF := Lib.hid hf
  have hlt := hs.lt
  have HF2 := Lib.hid hf2
  clear hf hf2 hs hin hc
  refine (callsIn_wide (n := 4)).1 ?_
  refine callsIn_of_wp Try.func18 rfl trivial ?_ rfl
  simp only [Try.ntmps18, List.size_toArray, List.length_cons, List.length_nil, Nat.reduceAdd, Nat.reduceSub, Array.replicate_succ, Array.replicate_zero, List.push_toArray, List.append_toArray, List.nil_append, List.cons_append]
  gi_wp2
  refine wpIn_split (fun w1 => Below (W.heap.size + 2) ((W.alloc (.cells #[.int .i64 x, .int .i64 y, .int .i64 rw, .int .i64 rh] 30)).alloc (.cells #[.int .i64 c] 3)) w1) ?_
  apply Exists.intro
  refine ⟨?h1, ?h2⟩
  case h1 =>
    gi_region_with (refine ⟨trivial, ?_⟩; gi_at_call 31; refine (callsIn_wide.2 (X.screen_Inside.calls x y rw rh w h true _ HF.out)).mono ?_; rintro e w1 ⟨rfl, hb1⟩)
    all_goals
      simp only [onlyN]
      refine ⟨rfl, ?_⟩
      refine Below.trans ?_ (Below.mono hb1 (by simp))
      exact Below.drew (Below.refl _ _)
  rintro w1 hb1
  have hcc : w1.cell? ⟨W.heap.size + 1, 0, none⟩ = some (.int .i64 c) := by
    have h0 := heap_alloc_new (W.alloc (.cells #[.int .i64 x, .int .i64 y, .int .i64 rw, .int .i64 rh] 30)) (.cells #[.int .i64 c] 3)
    rw [World.size_alloc] at h0
    rw [World.cell?, hb1.block (W.heap.size + 1) (by omega), h0]
    rfl
  have HB := Lib.hid (show Below W.heap.size W w1 from (below_alloc (below_alloc (Below.refl _ _) _) _).trans (Below.mono hb1 (by omega)))
  clear hb1
  gi_wp2_with (refine ⟨trivial, ?_⟩; gi_at_call 37; refine (callsIn_wide.2 (X.screen_colour.calls c false _ HF2.out)).mono ?_; rintro e _ ⟨rfl, ⟨m, rfl⟩⟩)
  go_ret
  exact ⟨rfl, pw_below_drewN HB.out _⟩
set_option maxHeartbeats 4000000 in
set_option maxRecDepth 100000 in
theorem Part_out (B g rb : Nat) (w h : Int) (F : Nat → Int) (x y rw rh : Int) (W : World) (hs : SIs B g rb w h F W) (hin : ¬ inside x y rw rh w h) :
    Calls Try.prog 13 #[.pointer (some ⟨g, 0, none⟩), .agg #[.int .i64 x, .int .i64 y, .int .i64 rw, .int .i64 rh]] W fun e W' => e = .returned (.tuple #[.slice none 0 0, .int .i64 140]) ∧ Below W.heap.size W W' := by
  obtain ⟨c0, c1, c2⟩ := hs.cells
  have hf := inside_f x y rw rh w h hs.2.2.2
  rw [decide_eq_false hin] at hf
  have HF := Lib.hid hf
  have hlt := hs.lt
  clear hf hs hin
  refine (callsIn_wide (n := 4)).1 ?_
  refine callsIn_of_wp Try.func13 rfl trivial ?_ rfl
  simp only [Try.ntmps13, List.size_toArray, List.length_cons, List.length_nil, Nat.reduceAdd, Nat.reduceSub, Array.replicate_succ, Array.replicate_zero, List.push_toArray, List.append_toArray, List.nil_append, List.cons_append]
  gi_wp2
  refine wpIn_split (fun w1 => Below (W.heap.size + 1) (W.alloc (.cells #[.int .i64 x, .int .i64 y, .int .i64 rw, .int .i64 rh] 30)) w1) ?_
  apply Exists.intro
  refine ⟨?h1, ?h2⟩
  case h1 =>
    gi_region_with (refine ⟨trivial, ?_⟩; gi_at_call 31; refine (callsIn_wide.2 (X.screen_Inside.calls x y rw rh w h false _ HF.out)).mono ?_; rintro e w1 ⟨rfl, hb1⟩)
    all_goals
      simp only [onlyN]
      refine ⟨rfl, ?_⟩
      refine Below.trans ?_ (Below.mono hb1 (by simp))
      exact Below.drew (Below.refl _ _)
  rintro w1 hb1
  gi_wp2
  go_ret2
  exact ⟨rfl, (below_alloc (Below.refl _ _) _).trans (Below.mono hb1 (by omega))⟩
end Go.Proofs.Ytjcibgopebpkiaa.SC
