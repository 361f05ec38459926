/- A screen by its places: Move. No condition. -/
import Derived.Test.YtjcibgopebpkiaaSC8
namespace Go.Proofs.Ytjcibgopebpkiaa.SC
open Go.RowKit Go.Proofs.YtjcibgopebpkiaaW.PrintWords Go.Proofs.YtjcibgopebpkiaaW.PrintLast Go.Proofs.YtjcibgopebpkiaaW.PrintMore Go.Proofs.Ytjcibgopebpkiaa.B Go.Proofs.Ytjcibgopebpkiaa.SCP
set_option linter.unusedVariables false
set_option linter.unusedSimpArgs false
theorem partL_length (w x y : Int) (F : Nat → Int) (rwn rhn : Nat) : (partL w x y F rwn rhn).length = rhn * rwn := by
  unfold partL
  induction rhn with
  | zero => simp
  | succ n ih => rw [List.range_succ, List.flatMap_append, List.length_append, ih]; simp [rowL, Nat.succ_mul]
/-- A colour of a part: row k, column j. -/
theorem partL_get (w x y : Int) (F : Nat → Int) (rwn : Nat) : ∀ (rhn k j : Nat), k < rhn → j < rwn → (partL w x y F rwn rhn)[k * rwn + j]? = some (F (((y + k) * w + x).toNat + j)) := by
  intro rhn
  induction rhn with
  | zero => intro k j hk; omega
  | succ n ih =>
    intro k j hk hj
    have hsp : partL w x y F rwn (n + 1) = partL w x y F rwn n ++ rowL F ((y + n) * w + x).toNat rwn := by
      unfold partL; rw [List.range_succ, List.flatMap_append]; simp
    rw [hsp]
    by_cases hkn : k < n
    · have h1 : k * rwn + j < n * rwn := by
        have := Nat.mul_le_mul_right rwn (show k + 1 ≤ n by omega)
        rw [Nat.succ_mul] at this; omega
      rw [List.getElem?_append_left (by rw [partL_length]; exact h1)]
      exact ih k j hkn hj
    · obtain rfl : k = n := by omega
      rw [List.getElem?_append_right (by rw [partL_length]; omega), partL_length, show k * rwn + j - k * rwn = j by omega]
      simp [rowL, hj]
/-- The colours of a part, by their number. -/
def partF (w x y : Int) (F : Nat → Int) (rwn : Nat) (i : Nat) : Int := F (((y + (i / rwn : Nat)) * w + x).toNat + i % rwn)
theorem partL_map (w x y : Int) (F : Nat → Int) (rwn rhn : Nat) : partL w x y F rwn rhn = (List.range (rhn * rwn)).map (partF w x y F rwn) := by
  apply List.ext_getElem?
  intro i
  by_cases hi : i < rhn * rwn
  · have hr : 0 < rwn := by
      rcases Nat.eq_zero_or_pos rwn with h | h
      · subst h; simp at hi
      · exact h
    have hk : i / rwn < rhn := (Nat.div_lt_iff_lt_mul hr).2 hi
    have := partL_get w x y F rwn rhn (i / rwn) (i % rwn) hk (Nat.mod_lt _ hr)
    rw [Nat.mul_comm, Nat.div_add_mod] at this
    rw [this]
    simp [hi, partF]
  · rw [List.getElem?_eq_none (by rw [partL_length]; omega), List.getElem?_eq_none (by simp; omega)]
theorem SIs.ext {B g rb : Nat} {w h : Int} {F G : Nat → Int} {W : World} (hs : SIs B g rb w h F W) (he : ∀ i, i < (w * h).toNat → F i = G i) : SIs B g rb w h G W := ⟨hs.1, hs.2.1, hs.2.2.1.ext he, hs.2.2.2⟩
/-- Blit, in plain form. -/
theorem Blit_v (B g rb : Nat) (w h : Int) (F : Nat → Int) (x y rw rh : Int) (A : Option Addr) (n c : Nat) (P : Nat → Int) (W : World) (hs : SIs B g rb w h F W) (hin : inside x y rw rh w h) (hn : n ≤ 1000000000000000) (hnc : n ≤ c) (hc63 : c ≤ 9223372036854775807) (hP : PixF A n P W) (hal : ∀ ad, A = some ad → 0 < n → ad.block ≠ rb) (hok : (n : Int) = rw * rh) (hall : (List.range n).all (fun i => isC (P i)) = true) :
    Calls Try.prog 10 #[.pointer (some ⟨g, 0, none⟩), .agg #[.int .i64 x, .int .i64 y, .int .i64 rw, .int .i64 rh], .slice A n c] W fun e W' => e = .returned (.int .i64 0) ∧
      SIs B g rb w h (blitF w x y rw rh F P) W' ∧ KP rb W W' := by
  refine (Blit_c B g rb w h F x y rw rh A n c P W hs hin hn hnc hc63 hP hal hok hall).mono ?_
  rintro e W' ⟨rfl, pre, hp, h1, h2⟩
  obtain ⟨i1, i2, i3, i4, i5, i6⟩ := hin
  obtain ⟨rwn, rfl⟩ : ∃ rwn : Nat, rw = rwn := ⟨rw.toNat, by omega⟩
  exact ⟨rfl, h1.ext (fun i _ => by rw [Int.toNat_natCast]; exact blitRows_all (by have := hs.2.2.2.1; omega) i1 i2 i5 i4 pre hp i), h2⟩
theorem own_pix {W : World} {B : Nat} {A : Option Addr} {n c : Nat} {P : Nat → Int} (h : W.ownsRow B 3 1 (.slice A n c) n (((List.range n).map P).map (Value.int .i64))) : PixF A n P W ∧ (∀ ad, A = some ad → B ≤ ad.block) ∧ n ≤ c ∧ c ≤ 9223372036854775807 := by
  rcases h.2 with ⟨h1, h0⟩ | ⟨g, cap, cur, h1, hb, hg, hnc, hcm, _⟩
  · injection h1 with h1 h2 h3
    subst h1; subst h3
    exact ⟨(fun i hi => by omega), (fun ad h => by cases h), by omega, by omega⟩
  · injection h1 with h1 h2 h3
    subst h1; subst h3
    refine ⟨fun i hi => ⟨_, rfl, ?_⟩, (fun ad h => by cases h; exact hb), hnc, by unfold maxLen at hcm; omega⟩
    exact h.cells (g := g) rfl i (.int .i64 (P i)) (by simp [hi])
theorem wp_split {P : Program} {c : Code} {Q : Exit → Act → World → Prop} {a : Act} {w : World} (R : World → Prop)
    (h : ∃ T : Array Value, c.wp P (onlyN (fun a' w' => a' = { tmps := T, defers := a.defers } ∧ R w')) a w ∧ ∀ w', R w' → Q .normal { tmps := T, defers := a.defers } w') : c.wp P Q a w := by
  obtain ⟨T, h1, h2⟩ := h
  refine wp_mono h1 (fun e a' w' hq => ?_)
  cases e with
  | normal => obtain ⟨rfl, hr⟩ := hq; exact h2 _ hr
  | _ => exact hq.elim
set_option maxHeartbeats 4000000 in
set_option maxRecDepth 100000 in
theorem Move_c (B g rb : Nat) (w h : Int) (F : Nat → Int) (fx fy rw rh tx ty : Int) (W : World) (hs : SIs B g rb w h F W) (hin : inside fx fy rw rh w h) (hin2 : inside tx ty rw rh w h) (hF : ∀ i, i < (w * h).toNat → isC (F i) = true) :
    Calls Try.prog 20 #[.pointer (some ⟨g, 0, none⟩), .agg #[.int .i64 fx, .int .i64 fy, .int .i64 rw, .int .i64 rh], .agg #[.int .i64 tx, .int .i64 ty, .int .i64 rw, .int .i64 rh]] W fun e W' => e = .returned (.int .i64 0) ∧
      SIs B g rb w h (blitF w tx ty rw rh F (partF w fx fy F rw.toNat)) W' ∧ KP rb W W' := by
  have hlt := hs.lt
  have hd := hs.2.2.2
  obtain ⟨i1, i2, i3, i4, i5, i6⟩ := hin
  obtain ⟨rwn, rfl⟩ : ∃ rwn : Nat, rw = rwn := ⟨rw.toNat, by omega⟩
  obtain ⟨rhn, rfl⟩ : ∃ rhn : Nat, rh = rhn := ⟨rh.toNat, by omega⟩
  have HS := Lib.hid hs
  have HF := Lib.hid hF
  have HIN := Lib.hid (show inside fx fy rwn rhn w h from ⟨i1, i2, i3, i4, i5, i6⟩)
  have HIN2 := Lib.hid hin2
  have hf := inside_f tx ty rwn rhn w h hd
  rw [decide_eq_true hin2] at hf
  have HI := Lib.hid hf
  clear hs hF hin2 hf
  go_enter Try.func20, Try.ntmps20
  go_wp2_with fail
  have hk2 : Kept W ((W.alloc (.cells #[.int .i64 fx, .int .i64 fy, .int .i64 rwn, .int .i64 rhn] 30)).alloc (.cells #[.int .i64 tx, .int .i64 ty, .int .i64 rwn, .int .i64 rhn] 30)) (fun _ => False) := ((Kept.refl W _).alloc _).alloc _
  refine (Part_c B g rb w h F fx fy rwn rhn _ (HS.out.keep hk2 (fun h => h) (fun h => h)) HIN.out).mono ?_
  rintro e w1 ⟨v, rfl, ho, hb⟩
  obtain ⟨A, c, rfl⟩ := own_slice ho
  have hb2 : Below (W.heap.size + 2) ((W.alloc (.cells #[.int .i64 fx, .int .i64 fy, .int .i64 rwn, .int .i64 rhn] 30)).alloc (.cells #[.int .i64 tx, .int .i64 ty, .int .i64 rwn, .int .i64 rhn] 30)) w1 := by simpa using hb
  have hbW : Below W.heap.size W w1 := (below_alloc (below_alloc (Below.refl _ _) _) _).trans (Below.mono hb2 (by omega))
  have r1 : w1.heap[W.heap.size]? = some (.cells #[.int .i64 fx, .int .i64 fy, .int .i64 rwn, .int .i64 rhn] 30 (0, 0)) := (hb2.block _ (by omega)).trans ((Below.heap_alloc _ _ _ (by simp)).trans (heap_alloc_new W _))
  have r2 : w1.heap[W.heap.size + 1]? = some (.cells #[.int .i64 tx, .int .i64 ty, .int .i64 rwn, .int .i64 rhn] 30 (0, 0)) := (hb2.block _ (by omega)).trans (by
    have := heap_alloc_new (W.alloc (.cells #[.int .i64 fx, .int .i64 fy, .int .i64 rwn, .int .i64 rhn] 30)) (.cells #[.int .i64 tx, .int .i64 ty, .int .i64 rwn, .int .i64 rhn] 30)
    rwa [World.size_alloc] at this)
  have hs1 : SIs B g rb w h F w1 := HS.out.keep (Kept.of_below hbW (fun _ => False)) (fun h => h) (fun h => h)
  obtain ⟨c0, c1, c2⟩ := hs1.cells
  have p2 : w1.cell? ⟨W.heap.size, 2, none⟩ = some (.int .i64 rwn) := by rw [World.cell?, r1]; rfl
  have p3 : w1.cell? ⟨W.heap.size, 3, none⟩ = some (.int .i64 rhn) := by rw [World.cell?, r1]; rfl
  have q0 : w1.cell? ⟨W.heap.size + 1, 0, none⟩ = some (.int .i64 tx) := by rw [World.cell?, r2]; rfl
  have q1 : w1.cell? ⟨W.heap.size + 1, 1, none⟩ = some (.int .i64 ty) := by rw [World.cell?, r2]; rfl
  have q2 : w1.cell? ⟨W.heap.size + 1, 2, none⟩ = some (.int .i64 rwn) := by rw [World.cell?, r2]; rfl
  have q3 : w1.cell? ⟨W.heap.size + 1, 3, none⟩ = some (.int .i64 rhn) := by rw [World.cell?, r2]; rfl
  have HS1 := Lib.hid hs1
  have HBW := Lib.hid hbW
  have HR1 := Lib.hid r1
  have HR2 := Lib.hid r2
  have HO := Lib.hid ho
  clear hs1 hbW r1 r2 ho hb hb2 hk2
  go_wp2_with fail
  refine wp_split (fun w2 => Below w1.heap.size w1 w2) ?_
  apply Exists.intro
  refine ⟨?h1, ?h2⟩
  case h1 =>
    go_region_with (go_at_call 31; refine (X.screen_Inside.calls tx ty rwn rhn w h true _ HI.out).mono ?_; rintro e w2 ⟨rfl, hb1⟩)
    all_goals
      simp only [onlyN]
      refine ⟨rfl, ?_⟩
      exact Below.trans (Below.drew (Below.refl _ _)) (Below.mono hb1 (by simp))
  rintro w2 hb1
  have hl1 := blk_lt HR1.out
  have hl2 := blk_lt HR2.out
  have e2 : w2.cell? ⟨W.heap.size, 2, none⟩ = some (.int .i64 rwn) := by rw [World.cell?, hb1.block W.heap.size hl1, HR1.out]; rfl
  have e3 : w2.cell? ⟨W.heap.size, 3, none⟩ = some (.int .i64 rhn) := by rw [World.cell?, hb1.block W.heap.size hl1, HR1.out]; rfl
  have d0 : w2.cell? ⟨W.heap.size + 1, 0, none⟩ = some (.int .i64 tx) := by rw [World.cell?, hb1.block (W.heap.size + 1) hl2, HR2.out]; rfl
  have d1 : w2.cell? ⟨W.heap.size + 1, 1, none⟩ = some (.int .i64 ty) := by rw [World.cell?, hb1.block (W.heap.size + 1) hl2, HR2.out]; rfl
  have d2 : w2.cell? ⟨W.heap.size + 1, 2, none⟩ = some (.int .i64 rwn) := by rw [World.cell?, hb1.block (W.heap.size + 1) hl2, HR2.out]; rfl
  have d3 : w2.cell? ⟨W.heap.size + 1, 3, none⟩ = some (.int .i64 rhn) := by rw [World.cell?, hb1.block (W.heap.size + 1) hl2, HR2.out]; rfl
  have HB1 := Lib.hid hb1
  clear hb1 c0 c1 c2 p2 p3 q0 q1 q2 q3
  have hs2 := HS1.out.keep (Kept.of_below HB1.out (fun _ => False)) (fun h => h) (fun h => h)
  have ho2 := HO.out
  rw [Int.toNat_natCast, Int.toNat_natCast, partL_length, partL_map] at ho2
  obtain ⟨hp1, hp2, hp3, hp4⟩ := own_pix ho2
  have harea := area_le hd.1 hd.2.1 hd.2.2.1 hd.2.2.2
  have hn : rhn * rwn ≤ 16777216 := Nat.le_trans (Nat.mul_le_mul (show rhn ≤ 4096 by omega) (show rwn ≤ 4096 by omega)) (by decide)
  have HBL := Lib.hid (Blit_v B g rb w h F tx ty rwn rhn A (rhn * rwn) c (partF w fx fy F rwn) w2 hs2 HIN2.out (by omega) hp3 hp4 (hp1.below HB1.out) (fun ad ha _ => by have := hp2 ad ha; simp at this; omega) (by push_cast; exact Int.mul_comm _ _) (by
    rw [List.all_eq_true]
    intro i hi
    have hi := List.mem_range.1 hi
    have hr : 0 < rwn := by
      rcases Nat.eq_zero_or_pos rwn with h | h
      · subst h; simp at hi
      · exact h
    have hk : i / rwn < rhn := (Nat.div_lt_iff_lt_mul hr).2 hi
    have hm := Nat.mod_lt i hr
    have hfit := row_fits (k := i / rwn) (show 0 < w by omega) i1 i2 i3 i5 i6 (by omega)
    exact HF.out _ (by omega)))
  have HK2 := Lib.hid ((KP.of_below (rb := rb) HBW.out).trans (KP.of_below HB1.out))
  clear hs2 ho2 hp1 hp2 hp3 hp4
  rw [Int.toNat_natCast] at *
  go_wp2_with fail
  have hbl := HBL.out
  rw [show rhn * rwn = (partL w fx fy F rwn rhn).length from (partL_length w fx fy F rwn rhn).symm] at hbl
  refine hbl.mono ?_
  rintro e w3 ⟨rfl, h1, h2⟩
  have H12 := Lib.hid (And.intro h1 h2)
  clear h1 h2 hbl
  go_wp2
  go_ret
  exact ⟨rfl, H12.out.1, HK2.out.trans H12.out.2⟩
set_option maxHeartbeats 4000000 in
set_option maxRecDepth 100000 in
/-- Move where it may not be. -/
theorem Move_out (B g rb : Nat) (w h : Int) (F : Nat → Int) (fx fy rw rh tx ty tw th : Int) (W : World) (hs : SIs B g rb w h F W) (hin : ¬ inside fx fy rw rh w h) :
    Calls Try.prog 20 #[.pointer (some ⟨g, 0, none⟩), .agg #[.int .i64 fx, .int .i64 fy, .int .i64 rw, .int .i64 rh], .agg #[.int .i64 tx, .int .i64 ty, .int .i64 tw, .int .i64 th]] W fun e W' => e = .returned (.int .i64 140) ∧ Below W.heap.size W W' := by
  have HS := Lib.hid hs
  have HIN := Lib.hid hin
  clear hs hin
  go_enter Try.func20, Try.ntmps20
  go_wp2_with fail
  have hk2 : Kept W ((W.alloc (.cells #[.int .i64 fx, .int .i64 fy, .int .i64 rw, .int .i64 rh] 30)).alloc (.cells #[.int .i64 tx, .int .i64 ty, .int .i64 tw, .int .i64 th] 30)) (fun _ => False) := ((Kept.refl W _).alloc _).alloc _
  refine (Part_out B g rb w h F fx fy rw rh _ (HS.out.keep hk2 (fun h => h) (fun h => h)) HIN.out).mono ?_
  rintro e w1 ⟨rfl, hb⟩
  have HB := Lib.hid (show Below W.heap.size W w1 from (below_alloc (below_alloc (Below.refl _ _) _) _).trans (Below.mono hb (by simp; omega)))
  clear hb hk2
  go_wp2_with fail
  go_ret
  exact ⟨rfl, HB.out⟩
set_option maxHeartbeats 4000000 in
set_option maxRecDepth 100000 in
theorem Move_odd1 (B g rb : Nat) (w h : Int) (F : Nat → Int) (fx fy rw rh tx ty tw th : Int) (W : World) (hs : SIs B g rb w h F W) (hin : inside fx fy rw rh w h) (hin2 : inside tx ty tw th w h) (hne : rw ≠ tw ∨ rh ≠ th) :
    Calls Try.prog 20 #[.pointer (some ⟨g, 0, none⟩), .agg #[.int .i64 fx, .int .i64 fy, .int .i64 rw, .int .i64 rh], .agg #[.int .i64 tx, .int .i64 ty, .int .i64 tw, .int .i64 th]] W fun e W' => e = .returned (.int .i64 1) ∧ Below W.heap.size W W' := by
  have hlt := hs.lt
  have hd := hs.2.2.2
  have HS := Lib.hid hs
  have HIN := Lib.hid hin
  have HI := Lib.hid (inside_f tx ty tw th w h hd)
  rw [decide_eq_true hin2] at HI
  clear hs hin hin2
  go_enter Try.func20, Try.ntmps20
  go_wp2_with fail
  have hk2 : Kept W ((W.alloc (.cells #[.int .i64 fx, .int .i64 fy, .int .i64 rw, .int .i64 rh] 30)).alloc (.cells #[.int .i64 tx, .int .i64 ty, .int .i64 tw, .int .i64 th] 30)) (fun _ => False) := ((Kept.refl W _).alloc _).alloc _
  refine (Part_c B g rb w h F fx fy rw rh _ (HS.out.keep hk2 (fun h => h) (fun h => h)) HIN.out).mono ?_
  rintro e w1 ⟨v, rfl, ho, hb⟩
  obtain ⟨A, c, rfl⟩ := own_slice ho
  generalize (partL w fx fy F rw.toNat rh.toNat).length = nl at *
  have hb2 : Below (W.heap.size + 2) ((W.alloc (.cells #[.int .i64 fx, .int .i64 fy, .int .i64 rw, .int .i64 rh] 30)).alloc (.cells #[.int .i64 tx, .int .i64 ty, .int .i64 tw, .int .i64 th] 30)) w1 := by simpa using hb
  have hbW : Below W.heap.size W w1 := (below_alloc (below_alloc (Below.refl _ _) _) _).trans (Below.mono hb2 (by omega))
  have r1 : w1.heap[W.heap.size]? = some (.cells #[.int .i64 fx, .int .i64 fy, .int .i64 rw, .int .i64 rh] 30 (0, 0)) := (hb2.block _ (by omega)).trans ((Below.heap_alloc _ _ _ (by simp)).trans (heap_alloc_new W _))
  have r2 : w1.heap[W.heap.size + 1]? = some (.cells #[.int .i64 tx, .int .i64 ty, .int .i64 tw, .int .i64 th] 30 (0, 0)) := (hb2.block _ (by omega)).trans (by
    have := heap_alloc_new (W.alloc (.cells #[.int .i64 fx, .int .i64 fy, .int .i64 rw, .int .i64 rh] 30)) (.cells #[.int .i64 tx, .int .i64 ty, .int .i64 tw, .int .i64 th] 30)
    rwa [World.size_alloc] at this)
  have hs1 : SIs B g rb w h F w1 := HS.out.keep (Kept.of_below hbW (fun _ => False)) (fun h => h) (fun h => h)
  obtain ⟨c0, c1, c2⟩ := hs1.cells
  have q0 : w1.cell? ⟨W.heap.size + 1, 0, none⟩ = some (.int .i64 tx) := by rw [World.cell?, r2]; rfl
  have q1 : w1.cell? ⟨W.heap.size + 1, 1, none⟩ = some (.int .i64 ty) := by rw [World.cell?, r2]; rfl
  have q2 : w1.cell? ⟨W.heap.size + 1, 2, none⟩ = some (.int .i64 tw) := by rw [World.cell?, r2]; rfl
  have q3 : w1.cell? ⟨W.heap.size + 1, 3, none⟩ = some (.int .i64 th) := by rw [World.cell?, r2]; rfl
  have HBW := Lib.hid hbW
  have HR1 := Lib.hid r1
  have HR2 := Lib.hid r2
  clear hs1 hbW r1 r2 ho hb hb2 hk2
  go_wp2_with fail
  refine wp_split (fun w2 => Below w1.heap.size w1 w2) ?_
  apply Exists.intro
  refine ⟨?h1, ?h2⟩
  case h1 =>
    go_region_with (go_at_call 31; refine (X.screen_Inside.calls tx ty tw th w h true _ HI.out).mono ?_; rintro e w2 ⟨rfl, hb1⟩)
    all_goals
      simp only [onlyN]
      refine ⟨rfl, ?_⟩
      exact Below.trans (Below.drew (Below.refl _ _)) (Below.mono hb1 (by simp))
  rintro w2 hb1
  have hl1 := blk_lt HR1.out
  have hl2 := blk_lt HR2.out
  have e2 : w2.cell? ⟨W.heap.size, 2, none⟩ = some (.int .i64 rw) := by rw [World.cell?, hb1.block W.heap.size hl1, HR1.out]; rfl
  have e3 : w2.cell? ⟨W.heap.size, 3, none⟩ = some (.int .i64 rh) := by rw [World.cell?, hb1.block W.heap.size hl1, HR1.out]; rfl
  have d2 : w2.cell? ⟨W.heap.size + 1, 2, none⟩ = some (.int .i64 tw) := by rw [World.cell?, hb1.block (W.heap.size + 1) hl2, HR2.out]; rfl
  have d3 : w2.cell? ⟨W.heap.size + 1, 3, none⟩ = some (.int .i64 th) := by rw [World.cell?, hb1.block (W.heap.size + 1) hl2, HR2.out]; rfl
  have HB1 := Lib.hid (HBW.out.trans (Below.mono hb1 HBW.out.size))
  clear hb1 c0 c1 c2 q0 q1 q2 q3
  by_cases hw : rw = tw
  · have hh := hne.resolve_left (fun h => h hw)
    have b1 : (rw == tw) = true := by simpa using hw
    have b2 : (rw != tw) = false := by simpa using hw
    have b3 : (rh == th) = false := by simpa using hh
    have b4 : (rh != th) = true := by simpa using hh
    clear hne hw hh
    go_wp2_with fail
    go_ret
    exact ⟨rfl, HB1.out⟩
  · have b1 : (rw == tw) = false := by simpa using hw
    have b2 : (rw != tw) = true := by simpa using hw
    clear hne hw
    go_wp2_with fail
    go_ret
    exact ⟨rfl, HB1.out⟩
set_option maxHeartbeats 4000000 in
set_option maxRecDepth 100000 in
theorem Move_odd2 (B g rb : Nat) (w h : Int) (F : Nat → Int) (fx fy rw rh tx ty tw th : Int) (W : World) (hs : SIs B g rb w h F W) (hin : inside fx fy rw rh w h) (hin2 : ¬ inside tx ty tw th w h) :
    Calls Try.prog 20 #[.pointer (some ⟨g, 0, none⟩), .agg #[.int .i64 fx, .int .i64 fy, .int .i64 rw, .int .i64 rh], .agg #[.int .i64 tx, .int .i64 ty, .int .i64 tw, .int .i64 th]] W fun e W' => e = .returned (.int .i64 140) ∧ Below W.heap.size W W' := by
  have hlt := hs.lt
  have hd := hs.2.2.2
  have HS := Lib.hid hs
  have HIN := Lib.hid hin
  have HI := Lib.hid (inside_f tx ty tw th w h hd)
  rw [decide_eq_false hin2] at HI
  clear hs hin hin2
  go_enter Try.func20, Try.ntmps20
  go_wp2_with fail
  have hk2 : Kept W ((W.alloc (.cells #[.int .i64 fx, .int .i64 fy, .int .i64 rw, .int .i64 rh] 30)).alloc (.cells #[.int .i64 tx, .int .i64 ty, .int .i64 tw, .int .i64 th] 30)) (fun _ => False) := ((Kept.refl W _).alloc _).alloc _
  refine (Part_c B g rb w h F fx fy rw rh _ (HS.out.keep hk2 (fun h => h) (fun h => h)) HIN.out).mono ?_
  rintro e w1 ⟨v, rfl, ho, hb⟩
  obtain ⟨A, c, rfl⟩ := own_slice ho
  generalize (partL w fx fy F rw.toNat rh.toNat).length = nl at *
  have hb2 : Below (W.heap.size + 2) ((W.alloc (.cells #[.int .i64 fx, .int .i64 fy, .int .i64 rw, .int .i64 rh] 30)).alloc (.cells #[.int .i64 tx, .int .i64 ty, .int .i64 tw, .int .i64 th] 30)) w1 := by simpa using hb
  have hbW : Below W.heap.size W w1 := (below_alloc (below_alloc (Below.refl _ _) _) _).trans (Below.mono hb2 (by omega))
  have r1 : w1.heap[W.heap.size]? = some (.cells #[.int .i64 fx, .int .i64 fy, .int .i64 rw, .int .i64 rh] 30 (0, 0)) := (hb2.block _ (by omega)).trans ((Below.heap_alloc _ _ _ (by simp)).trans (heap_alloc_new W _))
  have r2 : w1.heap[W.heap.size + 1]? = some (.cells #[.int .i64 tx, .int .i64 ty, .int .i64 tw, .int .i64 th] 30 (0, 0)) := (hb2.block _ (by omega)).trans (by
    have := heap_alloc_new (W.alloc (.cells #[.int .i64 fx, .int .i64 fy, .int .i64 rw, .int .i64 rh] 30)) (.cells #[.int .i64 tx, .int .i64 ty, .int .i64 tw, .int .i64 th] 30)
    rwa [World.size_alloc] at this)
  have hs1 : SIs B g rb w h F w1 := HS.out.keep (Kept.of_below hbW (fun _ => False)) (fun h => h) (fun h => h)
  obtain ⟨c0, c1, c2⟩ := hs1.cells
  have q0 : w1.cell? ⟨W.heap.size + 1, 0, none⟩ = some (.int .i64 tx) := by rw [World.cell?, r2]; rfl
  have q1 : w1.cell? ⟨W.heap.size + 1, 1, none⟩ = some (.int .i64 ty) := by rw [World.cell?, r2]; rfl
  have q2 : w1.cell? ⟨W.heap.size + 1, 2, none⟩ = some (.int .i64 tw) := by rw [World.cell?, r2]; rfl
  have q3 : w1.cell? ⟨W.heap.size + 1, 3, none⟩ = some (.int .i64 th) := by rw [World.cell?, r2]; rfl
  have HBW := Lib.hid hbW
  have HR1 := Lib.hid r1
  have HR2 := Lib.hid r2
  clear hs1 hbW r1 r2 ho hb hb2 hk2
  go_wp2_with fail
  refine wp_split (fun w2 => Below w1.heap.size w1 w2) ?_
  apply Exists.intro
  refine ⟨?h1, ?h2⟩
  case h1 =>
    go_region_with (go_at_call 31; refine (X.screen_Inside.calls tx ty tw th w h false _ HI.out).mono ?_; rintro e w2 ⟨rfl, hb1⟩)
    all_goals
      simp only [onlyN]
      refine ⟨rfl, ?_⟩
      exact Below.trans (Below.drew (Below.refl _ _)) (Below.mono hb1 (by simp))
  rintro w2 hb1
  have HB1 := Lib.hid (HBW.out.trans (Below.mono hb1 HBW.out.size))
  clear hb1 c0 c1 c2 q0 q1 q2 q3
  go_wp2_with fail
  go_ret
  exact ⟨rfl, HB1.out⟩
end Go.Proofs.Ytjcibgopebpkiaa.SC
