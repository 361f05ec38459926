/- A screen by its places: New, At, Size, Image. No condition. -/
import Derived.Test.YtjcibgopebpkiaaSC1
import Derived.Test.YtjcibgopebpkiaaShelf
import Derived.OwnWalk
import Derived.Maps.AppendAt
namespace Go.Proofs.Ytjcibgopebpkiaa.SC
open Go.RowKit Go.Proofs.YtjcibgopebpkiaaW.PrintWords Go.Proofs.YtjcibgopebpkiaaW.PrintLast Go.Proofs.YtjcibgopebpkiaaW.PrintMore Go.Proofs.Ytjcibgopebpkiaa.B Go.Proofs.Ytjcibgopebpkiaa.SCP
set_option linter.unusedVariables false
set_option linter.unusedSimpArgs false
/-- A row of n colours in block rb, by their places. -/
def RowF (rb n : Nat) (F : Nat → Int) (W : World) : Prop := ∃ cur, W.heap[rb]? = some (.cells cur 3 (0, 0)) ∧ cur.size = n ∧ ∀ i, i < n → cur[i]? = some (.int .i64 (F i))
theorem RowF.lt {rb n : Nat} {F : Nat → Int} {W : World} (h : RowF rb n F W) : rb < W.heap.size := by obtain ⟨cur, h1, _⟩ := h; exact blk_lt h1
theorem RowF.cell {rb n : Nat} {F : Nat → Int} {W : World} (h : RowF rb n F W) (i : Nat) (hi : i < n) : W.cell? ⟨rb, i, none⟩ = some (.int .i64 (F i)) := by
  obtain ⟨cur, h1, h2, h3⟩ := h
  rw [World.cell?, h1]
  simpa using h3 i hi
theorem RowF.frozen {rb n : Nat} {F : Nat → Int} {W : World} (h : RowF rb n F W) (a : Nat) : W.frozen? ⟨rb, a, none⟩ = false := by obtain ⟨cur, h1, _⟩ := h; exact blk_frozen h1 _
theorem RowF.move {rb n : Nat} {F : Nat → Int} {W W1 : World} (h : RowF rb n F W) (hm : W1.heap[rb]? = W.heap[rb]?) : RowF rb n F W1 := by obtain ⟨cur, h1, h2⟩ := h; exact ⟨cur, hm.trans h1, h2⟩
theorem RowF.set {rb n : Nat} {F : Nat → Int} {W : World} (h : RowF rb n F W) (j : Nat) (v : Int) : RowF rb n (fun i => if i = j then v else F i) (W.setCell ⟨rb, j, none⟩ (.int .i64 v)) := by
  obtain ⟨cur, h1, h2, h3⟩ := h
  refine ⟨_, blk_set h1 j _, by simpa using h2, fun i hi => ?_⟩
  by_cases hij : i = j
  · subst hij
    simp [Array.getElem?_setIfInBounds, h2, hi]
  · rw [Array.getElem?_setIfInBounds_ne (fun h => hij h.symm)]; simpa [hij] using h3 i hi
theorem RowF.ext {rb n : Nat} {F G : Nat → Int} {W : World} (h : RowF rb n F W) (he : ∀ i, i < n → F i = G i) : RowF rb n G W := by
  obtain ⟨cur, h1, h2, h3⟩ := h
  exact ⟨cur, h1, h2, fun i hi => by rw [← he i hi]; exact h3 i hi⟩
/-- A screen in block g, its colours in block rb. -/
def SIs (B g rb : Nat) (w h : Int) (F : Nat → Int) (W : World) : Prop :=
  (B ≤ g ∧ B ≤ rb ∧ g ≠ rb) ∧ W.heap[g]? = some (.cells #[.int .i64 w, .int .i64 h, .slice (some ⟨rb, 0, none⟩) (w * h).toNat (w * h).toNat] 66 (0, 0)) ∧ RowF rb (w * h).toNat F W ∧ 1 ≤ w ∧ w ≤ 4096 ∧ 1 ≤ h ∧ h ≤ 4096
theorem SIs.keep {B g rb : Nat} {w h : Int} {F : Nat → Int} {W W1 : World} {X : Nat → Prop} (hs : SIs B g rb w h F W) (hk : Kept W W1 X) (h1 : ¬ X g) (h2 : ¬ X rb) : SIs B g rb w h F W1 :=
  ⟨hs.1, blk_kept hs.2.1 hk h1, hs.2.2.1.move (hk.2 rb hs.2.2.1.lt h2), hs.2.2.2⟩
theorem SIs.drewN {B g rb : Nat} {w h : Int} {F : Nat → Int} {W : World} (hs : SIs B g rb w h F W) (q : Nat) : SIs B g rb w h F (W.drewN q) := hs
theorem SIs.lt {B g rb : Nat} {w h : Int} {F : Nat → Int} {W : World} (hs : SIs B g rb w h F W) : g < W.heap.size ∧ rb < W.heap.size := ⟨blk_lt hs.2.1, hs.2.2.1.lt⟩
theorem SIs.cells {B g rb : Nat} {w h : Int} {F : Nat → Int} {W : World} (hs : SIs B g rb w h F W) : W.cell? ⟨g, 0, none⟩ = some (.int .i64 w) ∧ W.cell? ⟨g, 1, none⟩ = some (.int .i64 h) ∧ W.cell? ⟨g, 2, none⟩ = some (.slice (some ⟨rb, 0, none⟩) (w * h).toNat (w * h).toNat) :=
  ⟨by rw [World.cell?, hs.2.1]; rfl, by rw [World.cell?, hs.2.1]; rfl, by rw [World.cell?, hs.2.1]; rfl⟩
theorem area_le {w h : Int} (w1 : 1 ≤ w) (w2 : w ≤ 4096) (h1 : 1 ≤ h) (h2 : h ≤ 4096) : 1 ≤ w * h ∧ w * h ≤ 16777216 := by
  have a : w * h ≤ 4096 * h := Int.mul_le_mul_of_nonneg_right w2 (by omega)
  have b : 1 * h ≤ w * h := Int.mul_le_mul_of_nonneg_right w1 (by omega)
  omega
theorem info_int : (Try.prog.info? 3).map (fun i => (i.zero, i.size, i.bytes)) = some (some (.int .i64 0), 1, 8) := by kernel_rfl
theorem side_f (n : Int) : X.screen_side.f n = some (decide (1 ≤ n ∧ n ≤ 4096)) := by
  unfold X.screen_side.f
  split
  · congr 1; rw [Bool.eq_iff_iff]; simp; omega
  · congr 1; simp; omega
set_option maxHeartbeats 1000000 in
set_option maxRecDepth 100000 in
theorem New_bad (w h : Int) (W : World) (hb : ¬ (1 ≤ w ∧ w ≤ 4096 ∧ 1 ≤ h ∧ h ≤ 4096)) :
    Calls Try.prog 9 #[.int .i64 w, .int .i64 h] W fun e W' => e = .returned (.tuple #[.pointer none, .int .i64 1]) ∧ Below W.heap.size W W' := by
  have s1 := side_f w
  have s2 := side_f h
  by_cases h1 : 1 ≤ w ∧ w ≤ 4096
  · have h2 : ¬ (1 ≤ h ∧ h ≤ 4096) := fun h => hb ⟨h1.1, h1.2, h⟩
    rw [decide_eq_true h1] at s1
    rw [decide_eq_false h2] at s2
    clear hb h1 h2
    go_enter Try.func9, Try.ntmps9
    go_wp2_with fail
    refine (X.screen_side.calls w true _ s1).mono ?_
    rintro e _ ⟨rfl, ⟨m, rfl⟩⟩
    go_wp2_with fail
    refine (X.screen_side.calls h false _ s2).mono ?_
    rintro e _ ⟨rfl, ⟨m2, rfl⟩⟩
    go_wp2
    go_ret2
    exact ⟨rfl, pw_below_drewN (Below.refl _ _) _⟩
  · rw [decide_eq_false h1] at s1
    clear hb h1
    go_enter Try.func9, Try.ntmps9
    go_wp2_with fail
    refine (X.screen_side.calls w false _ s1).mono ?_
    rintro e _ ⟨rfl, ⟨m, rfl⟩⟩
    go_wp2
    go_ret2
    exact ⟨rfl, pw_below_drewN (Below.refl _ _) _⟩
set_option maxHeartbeats 1000000 in
set_option maxRecDepth 100000 in
theorem New_c (B : Nat) (w h : Int) (W : World) (hBW : B ≤ W.heap.size) (hb : 1 ≤ w ∧ w ≤ 4096 ∧ 1 ≤ h ∧ h ≤ 4096) :
    Calls Try.prog 9 #[.int .i64 w, .int .i64 h] W fun e W' => ∃ g rb, e = .returned (.tuple #[.pointer (some ⟨g, 0, none⟩), .int .i64 0]) ∧ SIs B g rb w h (fun _ => 0) W' ∧ W.heap.size ≤ g ∧ W.heap.size ≤ rb ∧ Below W.heap.size W W' := by
  have s1 := side_f w
  have s2 := side_f h
  rw [decide_eq_true ⟨hb.1, hb.2.1⟩] at s1
  rw [decide_eq_true ⟨hb.2.2.1, hb.2.2.2⟩] at s2
  obtain ⟨i0, hi, hz0, hz1, hz2⟩ := info_parts info_int
  have ha := area_le hb.1 hb.2.1 hb.2.2.1 hb.2.2.2
  obtain ⟨n, hn⟩ : ∃ n : Nat, w * h = n := ⟨(w * h).toNat, by omega⟩
  have hw1 : IntKind.i64.wrap (w * h) = n := by rw [IntKind.wrap_i64]; omega
  have HN := Lib.hid hn
  have HA := Lib.hid ha
  have HB := Lib.hid hb
  have h64 : (n : Int) ≤ 16777216 := by omega
  have hpos : 1 ≤ n := by omega
  clear hn ha hb
  go_enter Try.func9, Try.ntmps9
  go_wp2_with fail
  refine (X.screen_side.calls w true _ s1).mono ?_
  rintro e _ ⟨rfl, ⟨m, rfl⟩⟩
  go_wp2_with fail
  refine (X.screen_side.calls h true _ s2).mono ?_
  rintro e _ ⟨rfl, ⟨m2, rfl⟩⟩
  clear s1 s2
  go_wp2_with (with_reducible refine wpList_make_full _ rfl _ _ 22 rfl W.heap.size 3 i0 (.int .i64 0) 1 Try.underlying22 hi hz0 hz1 .i64 .i64 n n n rfl rfl rfl rfl ?c1 ?c2 ?c3 ?_)
  case c1 => rw [hz2]; omega
  case c2 => unfold maxLen; omega
  case c3 => simp
  intro w2 hown hgrow
  have hrow : RowF W.heap.size n (fun _ => 0) w2 := by
    rcases hown.2 with ⟨_, h0⟩ | ⟨g, cap, cur, hv, _, hg, _, _, hcs, htk⟩
    · omega
    · injection hv with hv _ hcap
      injection hv with hv
      injection hv with hv
      subst hv; subst hcap
      rw [toList_madeCells_one, Nat.mul_one] at htk
      rw [Nat.mul_one] at hcs
      refine ⟨cur, hg, hcs, fun i hi => ?_⟩
      have h1 : (cur.toList.take n)[i]? = some (.int .i64 0) := by rw [htk, List.getElem?_replicate, if_pos hi]
      rw [List.getElem?_take_of_lt hi] at h1
      simpa using h1
  have hsz := hgrow.size
  have hk : Below W.heap.size W w2 := (pw_below_drewN (Below.refl W.heap.size W) (m + m2)).grown hgrow (Nat.le_refl _) (fun k h => by cases h)
  have HF := Lib.hid (show SIs B w2.heap.size W.heap.size w h (fun _ => 0) (w2.alloc (.cells #[.int .i64 w, .int .i64 h, .slice (some ⟨W.heap.size, 0, none⟩) n n] 66)) from by
    have hlt := hrow.lt
    refine ⟨⟨Nat.le_trans hBW hsz, hBW, by omega⟩, ?_, ?_, HB.out⟩
    · rw [HN.out, Int.toNat_natCast]; exact heap_alloc_new w2 _
    · rw [HN.out, Int.toNat_natCast]; exact hrow.move (Below.heap_alloc _ _ _ hlt))
  have HK := Lib.hid (below_alloc hk (.cells #[.int .i64 w, .int .i64 h, .slice (some ⟨W.heap.size, 0, none⟩) n n] 66))
  clear hown hgrow hrow hk hw1
  go_wp2
  go_ret2
  exact ⟨w2.heap.size, W.heap.size, rfl, HF.out, hsz, Nat.le_refl _, HK.out⟩
/-- The colour at a place. -/
def atF (w h : Int) (F : Nat → Int) (x y : Int) : Int := if x < 0 ∨ y < 0 ∨ x ≥ w ∨ y ≥ h then 0 else F (y * w + x).toNat
theorem place_le {w h x y : Int} (hx : 0 ≤ x) (hy : 0 ≤ y) (hxw : x < w) (hyh : y < h) : 0 ≤ y * w ∧ 0 ≤ y * w + x ∧ y * w + x < w * h := by
  have a : (y + 1) * w ≤ h * w := Int.mul_le_mul_of_nonneg_right (by omega) (by omega)
  have b : 0 ≤ y * w := Int.mul_nonneg hy (by omega)
  rw [Int.add_mul, Int.one_mul, Int.mul_comm h w] at a
  omega
set_option maxHeartbeats 2000000 in
set_option maxRecDepth 100000 in
theorem At_c (B g rb : Nat) (w h : Int) (F : Nat → Int) (x y : Int) (W : World) (hs : SIs B g rb w h F W) :
    Calls Try.prog 17 #[.pointer (some ⟨g, 0, none⟩), .int .i64 x, .int .i64 y] W fun e W' => e = .returned (.int .i64 (atF w h F x y)) ∧ ∃ m, W' = W.drewN m := by
  obtain ⟨c0, c1, c2⟩ := hs.cells
  have hb := hs.2.2.2
  have ha := area_le hb.1 hb.2.1 hb.2.2.1 hb.2.2.2
  by_cases hin : x < 0 ∨ y < 0 ∨ x ≥ w ∨ y ≥ h
  · have hv : atF w h F x y = 0 := if_pos hin
    rw [hv]
    clear hs hv
    go_enter Try.func17, Try.ntmps17
    by_cases h1 : x < 0
    · go_wp2
      go_ret
      exact ⟨rfl, 0, rfl⟩
    · by_cases h2 : y < 0
      · go_wp2
        go_ret
        exact ⟨rfl, 0, rfl⟩
      · by_cases h3 : x ≥ w
        · go_wp2
          go_ret
          exact ⟨rfl, 0, rfl⟩
        · have h4 : y ≥ h := by omega
          go_wp2
          go_ret
          exact ⟨rfl, 0, rfl⟩
  · obtain ⟨hp0, hp1, hp2⟩ := place_le (w := w) (h := h) (x := x) (y := y) (by omega) (by omega) (by omega) (by omega)
    obtain ⟨j, hj⟩ : ∃ j : Nat, y * w + x = j := ⟨(y * w + x).toNat, by omega⟩
    have hv : atF w h F x y = F j := by unfold atF; rw [if_neg hin, hj, Int.toNat_natCast]
    rw [hv]
    have hjn : j < (w * h).toNat := by omega
    have cc := hs.2.2.1.cell j hjn
    have cc2 : W.cell? ((⟨rb, 0, none⟩ : Addr).add j) = some (.int .i64 (F j)) := by
      rw [show (⟨rb, 0, none⟩ : Addr).add j = ⟨rb, j, none⟩ from by unfold Addr.add; split <;> simp_all]; exact cc
    have w1 : IntKind.i64.wrap (y * w) = y * w := by rw [IntKind.wrap_i64]; omega
    have w2 : IntKind.i64.wrap (j : Int) = j := by rw [IntKind.wrap_i64]; omega
    have e0 : decide (x < 0) = false := decide_eq_false (by omega)
    have e1 : decide (y < 0) = false := decide_eq_false (by omega)
    have e2 : decide (x ≥ w) = false := decide_eq_false (by omega)
    have e3 : decide (y ≥ h) = false := decide_eq_false (by omega)
    have e4 : decide (w ≤ x) = false := decide_eq_false (by omega)
    have e5 : decide (h ≤ y) = false := decide_eq_false (by omega)
    have b1 : (j : Int) < ((w * h).toNat : Int) := by omega
    generalize (w * h).toNat = n at *
    clear hs hv hin hb ha hp0 hp1 hp2
    go_enter Try.func17, Try.ntmps17
    go_wp2
    go_quiet (fail)
    go_wp2
    go_ret
    exact ⟨rfl, _, rfl⟩
set_option maxHeartbeats 1000000 in
set_option maxRecDepth 100000 in
theorem Size_c (B g rb : Nat) (w h : Int) (F : Nat → Int) (W : World) (hs : SIs B g rb w h F W) :
    Calls Try.prog 29 #[.pointer (some ⟨g, 0, none⟩)] W fun e W' => e = .returned (.tuple #[.int .i64 w, .int .i64 h]) ∧ ∃ m, W' = W.drewN m := by
  obtain ⟨c0, c1, c2⟩ := hs.cells
  clear hs
  go_enter Try.func29, Try.ntmps29
  go_wp2
  first | (go_ret2; exact ⟨rfl, 0, rfl⟩) | (go_region; all_goals (go_wp2; go_ret2; exact ⟨rfl, _, rfl⟩))
end Go.Proofs.Ytjcibgopebpkiaa.SC
