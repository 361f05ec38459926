/- A screen by its places: Blit. No condition. -/
import Derived.Test.YtjcibgopebpkiaaSC6
import Derived.Laws.IdiomCopy
namespace Go.Proofs.Ytjcibgopebpkiaa.SC
open Go.RowKit Go.Shelf Go.Proofs.YtjcibgopebpkiaaW.PrintWords Go.Proofs.YtjcibgopebpkiaaW.PrintLast Go.Proofs.YtjcibgopebpkiaaW.PrintMore Go.Proofs.Ytjcibgopebpkiaa.B Go.Proofs.Ytjcibgopebpkiaa.SCP
set_option linter.unusedVariables false
set_option linter.unusedSimpArgs false
attribute [local go_sem] Oper.semAt_some
/-- n colours of a slice, by their number. -/
def PixF (A : Option Addr) (n : Nat) (P : Nat → Int) (W : World) : Prop := ∀ i, i < n → ∃ ad, A = some ad ∧ W.cell? (ad.add i) = some (.int .i64 (P i))
theorem PixF.below {A : Option Addr} {n : Nat} {P : Nat → Int} {W W' : World} (h : PixF A n P W) (hb : Below W.heap.size W W') : PixF A n P W' := fun i hi => by
  obtain ⟨ad, ha, hc⟩ := h i hi
  exact ⟨ad, ha, pw_cell_below hb hc⟩
theorem setCells_kp (rb : Nat) : ∀ (vs : List Value) (o : Nat) (W : World), KP rb W (W.setCells rb o vs)
  | [], _, W => KP.refl rb W
  | v :: vs, o, W => ((KP.refl rb W).setCell o v).trans (setCells_kp rb vs (o + 1) _)
theorem setCells_others (rb : Nat) : ∀ (vs : List Value) (o : Nat) (W : World), KeepsOthers W (W.setCells rb o vs)
  | [], _, W => KeepsOthers.refl W
  | v :: vs, o, W => (KeepsOthers.setCell W ⟨rb, o, none⟩ v).trans (setCells_others rb vs (o + 1) _)
theorem RowF.setCells {rb n : Nat} : ∀ (m : Nat) (F P : Nat → Int) (W : World) (fr : Nat), RowF rb n F W → RowF rb n (fun i => if fr ≤ i ∧ i < fr + m then P (i - fr) else F i) (W.setCells rb fr ((List.range m).map fun j => .int .i64 (P j)))
  | 0, F, P, W, fr, h => h.ext (fun i _ => by rw [if_neg (by omega)])
  | m + 1, F, P, W, fr, h => by
    rw [List.range_succ_eq_map, List.map_cons, List.map_map]
    have h1 := RowF.setCells m _ (fun j => P (j + 1)) _ (fr + 1) (h.set fr (P 0))
    refine h1.ext (fun i _ => ?_)
    by_cases h2 : i = fr
    · subst h2; rw [if_neg (by omega), if_pos rfl, if_pos (by omega), Nat.sub_self]
    · by_cases h3 : fr + 1 ≤ i ∧ i < fr + 1 + m
      · rw [if_pos h3, if_pos (by omega), show i - (fr + 1) + 1 = i - fr by omega]
      · rw [if_neg h3, if_neg h2, if_neg (by omega)]
set_option maxHeartbeats 4000000 in
set_option maxRecDepth 100000 in
theorem Blit_out (B g rb : Nat) (w h : Int) (F : Nat → Int) (x y rw rh : Int) (A : Option Addr) (n c : Nat) (W : World) (hs : SIs B g rb w h F W) (hin : ¬ inside x y rw rh w h) :
    Calls Try.prog 10 #[.pointer (some ⟨g, 0, none⟩), .agg #[.int .i64 x, .int .i64 y, .int .i64 rw, .int .i64 rh], .slice A n c] W fun e W' => e = .returned (.int .i64 140) ∧ Below W.heap.size W W' := by
  obtain ⟨c0, c1, c2⟩ := hs.cells
  have hf := inside_f x y rw rh w h hs.2.2.2
  rw [decide_eq_false hin] at hf
  have HF := Lib.hid hf
  have HS := Lib.hid hs
  have hlt := hs.lt
  clear hf hs
  refine (callsIn_wide (n := 4)).1 ?_
  refine callsIn_of_wp Try.func10 rfl trivial ?_ rfl
  simp only [Try.ntmps10, List.size_toArray, List.length_cons, List.length_nil, Nat.reduceAdd, Nat.reduceSub, Array.replicate_succ, Array.replicate_zero, List.push_toArray, List.append_toArray, List.nil_append, List.cons_append]
  gi_wp2
  refine wpIn_split (fun w1 => Below (W.heap.size + 2) ((W.alloc (.cells #[.int .i64 x, .int .i64 y, .int .i64 rw, .int .i64 rh] 30)).alloc (.cells #[.slice A n c] 22)) w1) ?_
  apply Exists.intro
  refine ⟨?h1, ?h2⟩
  case h1 =>
    gi_region_with (refine ⟨trivial, ?_⟩; gi_at_call 31; refine (callsIn_wide.2 (X.screen_Inside.calls x y rw rh w h false _ HF.out)).mono ?_; rintro e w1 ⟨rfl, hb1⟩)
    all_goals
      simp only [onlyN]
      refine ⟨rfl, ?_⟩
      refine Below.trans ?_ (Below.mono hb1 (by simp))
      exact Below.drew (Below.refl _ _)
  rintro w1 hb1
  have hbW : Below W.heap.size W w1 := (below_alloc (below_alloc (Below.refl _ _) _) _).trans (Below.mono hb1 (by omega))
  gi_wp2
  go_ret
  exact ⟨rfl, hbW⟩
set_option maxHeartbeats 4000000 in
set_option maxRecDepth 100000 in
theorem Blit_odd (B g rb : Nat) (w h : Int) (F : Nat → Int) (x y rw rh : Int) (A : Option Addr) (n c : Nat) (P : Nat → Int) (W : World) (hs : SIs B g rb w h F W) (hin : inside x y rw rh w h) (hn : n ≤ 1000000000000000) (hP : PixF A n P W) (hbad : (n : Int) ≠ rw * rh ∨ (List.range n).all (fun i => isC (P i)) = false) :
    Calls Try.prog 10 #[.pointer (some ⟨g, 0, none⟩), .agg #[.int .i64 x, .int .i64 y, .int .i64 rw, .int .i64 rh], .slice A n c] W fun e W' => e = .returned (.int .i64 1) ∧ Below W.heap.size W W' := by
  obtain ⟨c0, c1, c2⟩ := hs.cells
  have hf := inside_f x y rw rh w h hs.2.2.2
  rw [decide_eq_true hin] at hf
  have HF := Lib.hid hf
  have HS := Lib.hid hs
  have hlt := hs.lt
  clear hf hs
  refine (callsIn_wide (n := 4)).1 ?_
  refine callsIn_of_wp Try.func10 rfl trivial ?_ rfl
  simp only [Try.ntmps10, List.size_toArray, List.length_cons, List.length_nil, Nat.reduceAdd, Nat.reduceSub, Array.replicate_succ, Array.replicate_zero, List.push_toArray, List.append_toArray, List.nil_append, List.cons_append]
  gi_wp2
  refine wpIn_split (fun w1 => Below (W.heap.size + 2) ((W.alloc (.cells #[.int .i64 x, .int .i64 y, .int .i64 rw, .int .i64 rh] 30)).alloc (.cells #[.slice A n c] 22)) w1) ?_
  apply Exists.intro
  refine ⟨?h1, ?h2⟩
  case h1 =>
    gi_region_with (refine ⟨trivial, ?_⟩; gi_at_call 31; refine (callsIn_wide.2 (X.screen_Inside.calls x y rw rh w h true _ HF.out)).mono ?_; rintro e w1 ⟨rfl, hb1⟩)
    all_goals
      simp only [onlyN]
      refine ⟨rfl, ?_⟩
      refine Below.trans ?_ (Below.mono hb1 (by simp))
      exact Below.drew (Below.refl _ _)
  rintro w1 hb1
  have hbW : Below W.heap.size W w1 := (below_alloc (below_alloc (Below.refl _ _) _) _).trans (Below.mono hb1 (by omega))
  have hr1 : w1.heap[W.heap.size]? = some (.cells #[.int .i64 x, .int .i64 y, .int .i64 rw, .int .i64 rh] 30 (0, 0)) := (hb1.block _ (by omega)).trans ((Below.heap_alloc _ _ _ (by simp)).trans (heap_alloc_new W _))
  have hc1 : w1.heap[W.heap.size + 1]? = some (.cells #[.slice A n c] 22 (0, 0)) := (hb1.block _ (by omega)).trans (by
    have := heap_alloc_new (W.alloc (.cells #[.int .i64 x, .int .i64 y, .int .i64 rw, .int .i64 rh] 30)) (.cells #[.slice A n c] 22)
    rwa [World.size_alloc] at this)
  have hcc : w1.cell? ⟨W.heap.size + 1, 0, none⟩ = some (.slice A n c) := by rw [World.cell?, hc1]; rfl
  have q0 : w1.cell? ⟨W.heap.size, 0, none⟩ = some (.int .i64 x) := by rw [World.cell?, hr1]; rfl
  have q1 : w1.cell? ⟨W.heap.size, 1, none⟩ = some (.int .i64 y) := by rw [World.cell?, hr1]; rfl
  have q2 : w1.cell? ⟨W.heap.size, 2, none⟩ = some (.int .i64 rw) := by rw [World.cell?, hr1]; rfl
  have q3 : w1.cell? ⟨W.heap.size, 3, none⟩ = some (.int .i64 rh) := by rw [World.cell?, hr1]; rfl
  have hmul : IntKind.i64.wrap (rw * rh) = rw * rh := by
    obtain ⟨i1, i2, i3, i4, i5, i6⟩ := hin
    have hd := HS.out.2.2.2
    have h1 : rw * rh ≤ 4096 * rh := Int.mul_le_mul_of_nonneg_right (by omega) (by omega)
    have h2 : 0 ≤ rw * rh := Int.mul_nonneg i3 i4
    rw [IntKind.wrap_i64]; omega
  have HBW := Lib.hid hbW
  have HR1 := Lib.hid hr1
  have HC1 := Lib.hid hc1
  have HP := Lib.hid hP
  clear hP hb1 hbW hr1 hc1 c0 c1 c2
  by_cases hnn : (n : Int) = rw * rh
  · have hall : (List.range n).all (fun i => isC (P i)) = false := hbad.resolve_left (fun h => h hnn)
    have hdn : decide ((n : Int) = rw * rh) = true := decide_eq_true hnn
    have hcon := Contains_c A n c P w1 hn (HP.out.below HBW.out)
    rw [hall] at hcon
    have HCON := Lib.hid hcon
    have HH := Lib.hid hnn
    clear hcon hnn hbad
    gi_wp2_with (refine ⟨trivial, ?_⟩; gi_at_call 38; refine (callsIn_wide.2 HCON.out).mono ?_; rintro e _ ⟨rfl, m, rfl⟩)
    go_ret
    exact ⟨rfl, pw_below_drewN HBW.out _⟩
  · have hdn : decide ((n : Int) = rw * rh) = false := decide_eq_false hnn
    clear hbad
    gi_wp2
    refine ⟨trivial, ?_⟩
    gi_wp2
    go_ret
    exact ⟨rfl, HBW.out⟩
/-- The colours when the rows pre have been drawn. -/
def blitRows (w x y : Int) (rwn : Nat) (F P : Nat → Int) {rh : Int} (pre : List {k : Nat // (k : Int) < rh}) : Nat → Int := pre.foldl (fun G k => fun i => if ((y + k.1) * w + x).toNat ≤ i ∧ i < ((y + k.1) * w + x).toNat + rwn then P (k.1 * rwn + (i - ((y + k.1) * w + x).toNat)) else G i) F
set_option maxHeartbeats 4000000 in
set_option maxRecDepth 100000 in
theorem Blit_c (B g rb : Nat) (w h : Int) (F : Nat → Int) (x y rw rh : Int) (A : Option Addr) (n c : Nat) (P : Nat → Int) (W : World) (hs : SIs B g rb w h F W) (hin : inside x y rw rh w h) (hn : n ≤ 1000000000000000) (hnc : n ≤ c) (hc63 : c ≤ 9223372036854775807) (hP : PixF A n P W) (hal : ∀ ad, A = some ad → 0 < n → ad.block ≠ rb) (hok : (n : Int) = rw * rh) (hall : (List.range n).all (fun i => isC (P i)) = true) :
    Calls Try.prog 10 #[.pointer (some ⟨g, 0, none⟩), .agg #[.int .i64 x, .int .i64 y, .int .i64 rw, .int .i64 rh], .slice A n c] W fun e W' => e = .returned (.int .i64 0) ∧
      ∃ pre : List {k : Nat // (k : Int) < rh}, pre.map (·.1) = List.range rh.toNat ∧ SIs B g rb w h (blitRows w x y rw.toNat F P pre) W' ∧ KP rb W W' := by
  obtain ⟨c0, c1, c2⟩ := hs.cells
  have hf := inside_f x y rw rh w h hs.2.2.2
  rw [decide_eq_true hin] at hf
  have HF := Lib.hid hf
  have HS := Lib.hid hs
  have hlt := hs.lt
  clear hf hs
  refine (callsIn_wide (n := 4)).1 ?_
  refine callsIn_of_wp_marks Try.func10 rfl trivial ?_ rfl
  simp only [Try.ntmps10, List.size_toArray, List.length_cons, List.length_nil, Nat.reduceAdd, Nat.reduceSub, Array.replicate_succ, Array.replicate_zero, List.push_toArray, List.append_toArray, List.nil_append, List.cons_append]
  gi_wp2
  refine wpIn_split (fun w1 => Below (W.heap.size + 2) ((W.alloc (.cells #[.int .i64 x, .int .i64 y, .int .i64 rw, .int .i64 rh] 30)).alloc (.cells #[.slice A n c] 22)) w1) ?_
  apply Exists.intro
  refine ⟨?h1, ?h2⟩
  case h1 =>
    gi_region_with (refine ⟨trivial, ?_⟩; gi_at_call 31; refine (callsIn_wide.2 (X.screen_Inside.calls x y rw rh w h true _ HF.out)).mono ?_; rintro e w1 ⟨rfl, hb1⟩)
    all_goals
      simp only [onlyN]
      refine ⟨rfl, ?_⟩
      refine Below.trans ?_ (Below.mono hb1 (by simp))
      exact Below.drew (Below.refl _ _)
  rintro w1 hb1
  have hbW : Below W.heap.size W w1 := (below_alloc (below_alloc (Below.refl _ _) _) _).trans (Below.mono hb1 (by omega))
  have hr1 : w1.heap[W.heap.size]? = some (.cells #[.int .i64 x, .int .i64 y, .int .i64 rw, .int .i64 rh] 30 (0, 0)) := (hb1.block _ (by omega)).trans ((Below.heap_alloc _ _ _ (by simp)).trans (heap_alloc_new W _))
  have hc1 : w1.heap[W.heap.size + 1]? = some (.cells #[.slice A n c] 22 (0, 0)) := (hb1.block _ (by omega)).trans (by
    have := heap_alloc_new (W.alloc (.cells #[.int .i64 x, .int .i64 y, .int .i64 rw, .int .i64 rh] 30)) (.cells #[.slice A n c] 22)
    rwa [World.size_alloc] at this)
  have hcc : w1.cell? ⟨W.heap.size + 1, 0, none⟩ = some (.slice A n c) := by rw [World.cell?, hc1]; rfl
  have q0 : w1.cell? ⟨W.heap.size, 0, none⟩ = some (.int .i64 x) := by rw [World.cell?, hr1]; rfl
  have q1 : w1.cell? ⟨W.heap.size, 1, none⟩ = some (.int .i64 y) := by rw [World.cell?, hr1]; rfl
  have q2 : w1.cell? ⟨W.heap.size, 2, none⟩ = some (.int .i64 rw) := by rw [World.cell?, hr1]; rfl
  have q3 : w1.cell? ⟨W.heap.size, 3, none⟩ = some (.int .i64 rh) := by rw [World.cell?, hr1]; rfl
  have hmul : IntKind.i64.wrap (rw * rh) = rw * rh := by
    obtain ⟨i1, i2, i3, i4, i5, i6⟩ := hin
    have hd := HS.out.2.2.2
    have h1 : rw * rh ≤ 4096 * rh := Int.mul_le_mul_of_nonneg_right (by omega) (by omega)
    have h2 : 0 ≤ rw * rh := Int.mul_nonneg i3 i4
    rw [IntKind.wrap_i64]; omega
  have HBW := Lib.hid hbW
  have HR1 := Lib.hid hr1
  have HC1 := Lib.hid hc1
  have HP := Lib.hid hP
  have hcon := Contains_c A n c P w1 hn (hP.below hbW)
  rw [hall] at hcon
  have HCON := Lib.hid hcon
  have HOK := Lib.hid hok
  have hdn : decide ((n : Int) = rw * rh) = true := decide_eq_true hok
  have hg1 : w1.heap[g]? = W.heap[g]? := hbW.block g hlt.1
  clear hP hb1 hbW hr1 hc1 c0 c1 c2 hcon hall hok
  gi_wp2_with (first | (refine ⟨trivial, ?_⟩; gi_at_call 38; refine (callsIn_wide.2 HCON.out).mono ?_; rintro e _ ⟨rfl, m, rfl⟩) | (refine ⟨trivial, ?_⟩; gi_at_call 39; refine (callsIn_wide.2 (rows_c g x y rw rh _)).mono ?_; rintro e _ ⟨rfl, rfl⟩))
  obtain ⟨Wl, hWl⟩ : ∃ Wl, ((w1.drewN m).alloc (.cells #[.pointer (some ⟨g, 0, none⟩)] 24)).alloc (.cells #[.int .i64 x, .int .i64 y, .int .i64 rw, .int .i64 rh] 30) = Wl := ⟨_, rfl⟩
  have hb2 : Below w1.heap.size w1 Wl := by rw [← hWl]; exact below_alloc (below_alloc (pw_below_drewN (Below.refl _ _) _) _) _
  have hsl : Wl.heap.size = w1.heap.size + 2 := by rw [← hWl]; simp
  have hBs : Wl.heap[w1.heap.size]? = some (.cells #[.pointer (some ⟨g, 0, none⟩)] 24 (0, 0)) := by
    rw [← hWl]; exact (Below.heap_alloc _ _ _ (by simp)).trans (heap_alloc_new (w1.drewN m) _)
  have hBr : Wl.heap[w1.heap.size + 1]? = some (.cells #[.int .i64 x, .int .i64 y, .int .i64 rw, .int .i64 rh] 30 (0, 0)) := by
    have := heap_alloc_new ((w1.drewN m).alloc (.cells #[.pointer (some ⟨g, 0, none⟩)] 24)) (.cells #[.int .i64 x, .int .i64 y, .int .i64 rw, .int .i64 rh] 30)
    rw [World.size_alloc, hWl] at this; exact this
  have hKl : KP rb W Wl := (KP.of_below HBW.out).trans (KP.of_below hb2)
  have hsz1 := HBW.out.size
  have hgl : Wl.heap[g]? = some (.cells #[.int .i64 w, .int .i64 h, .slice (some ⟨rb, 0, none⟩) (w * h).toNat (w * h).toNat] 66 (0, 0)) := (hKl.block g hlt.1 HS.out.1.2.2).trans HS.out.2.1
  have hcl : Wl.heap[W.heap.size + 1]? = some (.cells #[.slice A n c] 22 (0, 0)) := (hb2.block _ (blk_lt HC1.out)).trans HC1.out
  have hb1s := blk_lt HC1.out
  have hrl : RowF rb (w * h).toNat F Wl := HS.out.2.2.1.move (by
    rw [hb2.block rb (by omega)]
    exact HBW.out.block rb hlt.2)
  have hdim := HS.out.2.2.2
  have harea := area_le hdim.1 hdim.2.1 hdim.2.2.1 hdim.2.2.2
  obtain ⟨i1, i2, i3, i4, i5, i6⟩ := hin
  rw [hWl]
  have hrlx : Wl.heap[W.heap.size]? = some (.cells #[.int .i64 x, .int .i64 y, .int .i64 rw, .int .i64 rh] 30 (0, 0)) := (hb2.block _ (blk_lt HR1.out)).trans HR1.out
  have hPl : PixF A n P Wl := HP.out.below (HBW.out.trans (Below.mono hb2 HBW.out.size))
  refine rf_all (α := {k : Nat // (k : Int) < rh}) (by decide) rfl (enters_of Try.func45 (by kernel_rfl) rfl)
    (rows_stops 3 (by decide) (w1.heap.size + 1) w1.heap.size g rb Wl.heap.size rb x y rw rh w h (w * h).toNat i1 i2 i3 i4 i5 i6 (by omega) (by omega) (by omega) (by omega) ⟨by omega, by omega, by omega, by omega, by omega, HS.out.1.2.2⟩ Wl (Nat.le_refl _) hBr hBs hgl)
    keepRow_t (keepRow_b (Nat.le_refl _)) (fun _ => rfl)
    (fun pre Wx => RowF rb (w * h).toNat (blitRows w x y rw.toNat F P pre) Wx ∧ KP rb W Wx ∧ KP rb Wl Wx)
    (OwnFrom.and (ownFrom_rowF _ _) (OwnFrom.and (ownFrom_kp (by omega)) (ownFrom_kp (Nat.le_refl _))))
    ⟨hrl, hKl, KP.refl _ _⟩ ?_
  apply Exists.intro
  refine ⟨?assign, ?body, ?done⟩
  case assign =>
    intro l x W K hK
    gi_wp2
    exact hK
  case body =>
    rintro l pre k Wx ⟨hR, hK, hKl2⟩ hlen
    have hfit := row_fits (k := k.1) (show 0 < w by omega) i1 i2 i3 i5 i6 k.2
    obtain ⟨fr, hfr⟩ : ∃ fr : Nat, (y + k.1) * w + x = fr := ⟨((y + k.1) * w + x).toNat, by omega⟩
    obtain ⟨rwn, rfl⟩ : ∃ rwn : Nat, rw = rwn := ⟨rw.toNat, by omega⟩
    obtain ⟨rhn, rfl⟩ : ∃ rhn : Nat, rh = rhn := ⟨rh.toNat, by omega⟩
    obtain ⟨tot, htot⟩ : ∃ tot : Nat, (w * h).toNat = tot := ⟨_, rfl⟩
    rw [hfr] at hfit
    have hft : fr + rwn ≤ tot := by omega
    have htl : tot ≤ 16777216 := by omega
    have hk2 : k.1 < rhn := by have := k.2; omega
    have hnn : n = rwn * rhn := by have := HOK.out; rw [← Int.natCast_mul] at this; omega
    obtain ⟨kk, hkk⟩ : ∃ kk : Nat, k.1 * rwn = kk := ⟨_, rfl⟩
    have hkn : kk + rwn ≤ n := by
      have h1 : (k.1 + 1) * rwn ≤ rhn * rwn := Nat.mul_le_mul_right _ hk2
      rw [Nat.succ_mul, Nat.mul_comm rhn rwn] at h1
      omega
    have hkk2 : (k.1 : Int) * rwn = kk := by rw [← hkk]; push_cast; rfl
    have hw3 : IntKind.i64.wrap (kk : Int) = kk := by rw [IntKind.wrap_i64]; omega
    have hcx : Wx.cell? ⟨W.heap.size + 1, 0, none⟩ = some (.slice A n c) := by rw [World.cell?, hKl2.block (W.heap.size + 1) (by omega) (by omega), hcl]; rfl
    have hrx2 : Wx.cell? ⟨W.heap.size, 2, none⟩ = some (.int .i64 rwn) := by rw [World.cell?, hKl2.block W.heap.size (by omega) (by omega), hrlx]; rfl
    obtain ⟨A1, hA⟩ : ∃ A1 : Addr, (if tot = fr then (⟨rb, 0, none⟩ : Addr) else ⟨rb, fr, none⟩) = A1 := ⟨_, rfl⟩
    have hA2 : 0 < rwn → A1 = ⟨rb, fr, none⟩ := fun h => by rw [← hA, if_neg (by omega)]
    have hrv : rowV rb (w * h).toNat ((y + k.1) * w + x).toNat (rwn : Int).toNat = .slice (some A1) rwn (tot - fr) := by
      rw [hfr, Int.toNat_natCast, Int.toNat_natCast, htot]; unfold rowV; rw [hA]
    rw [htot, Int.toNat_natCast] at hR
    have hPx : PixF A n P Wx := fun i hi => by
      obtain ⟨ad, ha, hcell⟩ := hPl i hi
      refine ⟨ad, ha, ?_⟩
      have hb : (ad.add i).block = ad.block := add_block ad i
      have hlt2 : (ad.add i).block < Wl.heap.size := by
        rcases Nat.lt_or_ge (ad.add i).block Wl.heap.size with h1 | h1
        · exact h1
        · rw [World.cell?, Array.getElem?_eq_none h1] at hcell; cases hcell
      rw [World.cell?, hKl2.block _ hlt2 (by rw [hb]; exact hal ad ha (by omega))]
      exact hcell
    have hb0 : (0 : Int) ≤ (kk : Int) := by omega
    have hb1 : (kk : Int) ≤ (n : Int) := by omega
    have hb2' : (n : Int) ≤ (c : Int) := by omega
    have HR := Lib.hid hR
    have HK := Lib.hid hK
    have HKL := Lib.hid hKl2
    have HA2 := Lib.hid hA2
    have HTOT := Lib.hid htot
    have HFR := Lib.hid hfr
    have HPX := Lib.hid hPx
    have HKK := Lib.hid hkk
    have HNN := Lib.hid hnn
    have HSL := Lib.hid hsl
    clear hA hA2 hR hK hKl2 hWl hfr hgl hBr hBs hb2 hg1 hKl hrl htot hcl hPl hPx hrlx hkk hnn hsl hdn hmul hcc q0 q1 q2 q3
    simp only [hrv]
    by_cases hz : rwn = 0
    · subst hz
      have hcp : (Builtin.copy_ #[22, 22] 3 #[.slice (some A1) 0 (tot - fr), .slice A n c]).run Try.prog Wx = .ok (goInt 0) Wx := run_copy_none Wx _ _ _ 3 _ _ _ _ _ _ Try.underlying22 (by kernel_rfl) (Nat.min_eq_right (Nat.zero_le _))
      gi_wp2
      refine ⟨KeepsOthers.refl _, (KP.refl rb Wx).keepRow HKL.out.size, ?_, HK.out, HKL.out⟩
      rw [HTOT.out]
      try rw [Int.toNat_natCast]
      refine HR.out.ext (fun i _ => ?_)
      unfold blitRows
      rw [List.foldl_append, List.foldl_cons, List.foldl_nil, if_neg (by omega)]
    · obtain rfl := HA2.out (by omega)
      obtain ⟨ad, rfl, _⟩ := HPX.out kk (by omega)
      have hcp : (Builtin.copy_ #[22, 22] 3 #[.slice (some ⟨rb, fr, none⟩) rwn (tot - fr), .slice (some (ad.add kk)) (n - kk) (c - kk)]).run Try.prog Wx = .ok (goInt ((List.range rwn).map fun j => Value.int .i64 (P (kk + j))).length) (Wx.setCells rb fr ((List.range rwn).map fun j => Value.int .i64 (P (kk + j)))) := by
        refine run_copy_cells Wx _ _ _ 3 rb fr rwn _ _ _ _ _ Try.underlying22 (by kernel_rfl) ?_ ?_ ?_ ?_ ?_
        · rw [List.length_map, List.length_range]; exact (Nat.min_eq_right (by omega)).symm
        · intro j v hv
          have hjl : j < rwn := by
            have := (List.getElem?_eq_some_iff.1 hv).1
            simpa using this
          rw [List.getElem?_map, List.getElem?_range hjl] at hv
          injection hv with hv
          obtain ⟨ad', ha, hcell⟩ := HPX.out (kk + j) (by omega)
          injection ha with ha
          rw [← hv, add_add, ha]
          exact hcell
        · intro j hj
          rw [HR.out.cell (fr + j) (by simp at hj; omega)]; rfl
        · intro j hj; exact HR.out.frozen _
        · intro v hv; obtain ⟨a, _, rfl⟩ := List.mem_map.1 hv; rfl
      have HNEW := Lib.hid (RowF.setCells rwn _ (fun j => P (kk + j)) Wx fr HR.out)
      have HKN := Lib.hid (setCells_kp rb ((List.range rwn).map fun j => Value.int .i64 (P (kk + j))) fr Wx)
      have HON := Lib.hid (setCells_others rb ((List.range rwn).map fun j => Value.int .i64 (P (kk + j))) fr Wx)
      gi_wp2
      refine ⟨HON.out, HKN.out.keepRow HKL.out.size, ?_, HK.out.trans HKN.out, HKL.out.trans HKN.out⟩
      rw [HTOT.out]
      try rw [Int.toNat_natCast]
      refine HNEW.out.ext (fun i _ => ?_)
      unfold blitRows
      rw [List.foldl_append, List.foldl_cons, List.foldl_nil, HFR.out, Int.toNat_natCast, HKK.out]
  case done =>
    rintro D xs Wx hD hS ⟨hR, hK, hKl2⟩ hDD
    gi_wp2
    refine ⟨by first | (simp; done) | rfl | trivial | omega, .inl ⟨_, _, rfl, run_takeDeferred hDD, ?_⟩⟩
    have hbx := belowK_b (w := Wl) (Nat.le_refl _) Wx D (.deferred (some [])) (.deferred none) hD hDD rfl rfl
    have hkf : KP rb W (Wx.putObj D (.deferred none)) := ⟨hbx.os.trans hK.os, hbx.tape.trans hK.tape, hbx.output.trans hK.output, Nat.le_trans hK.size hbx.size, fun q hq hn => (hbx.block q (by omega)).trans (hK.block q hq hn)⟩
    refine ⟨_, results_tmp rfl _ _ _, rfl, xs, hS, ?_, hkf⟩
    exact ⟨HS.out.1, (hkf.block g hlt.1 HS.out.1.2.2).trans HS.out.2.1, hR.move (hbx.block rb (by omega)), hdim⟩
end Go.Proofs.Ytjcibgopebpkiaa.SC
