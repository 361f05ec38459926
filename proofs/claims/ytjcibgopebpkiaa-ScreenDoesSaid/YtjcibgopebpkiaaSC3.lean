/- A screen by its places: Fill. No condition. -/
import Derived.Test.YtjcibgopebpkiaaSC2
import Derived.RangeFuncFrom
import Derived.Sort.QuietIn
namespace Go.Proofs.Ytjcibgopebpkiaa.SC
open Go.RowKit Go.Shelf Go.Proofs.YtjcibgopebpkiaaW.PrintWords Go.Proofs.YtjcibgopebpkiaaW.PrintLast Go.Proofs.YtjcibgopebpkiaaW.PrintMore Go.Proofs.Ytjcibgopebpkiaa.B Go.Proofs.Ytjcibgopebpkiaa.SCP
set_option linter.unusedVariables false
set_option linter.unusedSimpArgs false
attribute [local go_sem] Oper.semAt_some
/-- All is as it was but block rb (and what is new). -/
structure KP (rb : Nat) (W W' : World) : Prop where
  os : W'.os = W.os
  tape : W'.tape = W.tape
  output : W'.output = W.output
  size : W.heap.size ≤ W'.heap.size
  block : ∀ k, k < W.heap.size → k ≠ rb → W'.heap[k]? = W.heap[k]?
theorem KP.refl (rb : Nat) (W : World) : KP rb W W := ⟨rfl, rfl, rfl, Nat.le_refl _, fun _ _ _ => rfl⟩
theorem KP.trans {rb : Nat} {A B C : World} (h : KP rb A B) (k : KP rb B C) : KP rb A C := ⟨k.os.trans h.os, k.tape.trans h.tape, k.output.trans h.output, Nat.le_trans h.size k.size, fun q hq hn => (k.block q (Nat.lt_of_lt_of_le hq h.size) hn).trans (h.block q hq hn)⟩
theorem KP.of_below {rb : Nat} {A B : World} (h : Below A.heap.size A B) : KP rb A B := ⟨h.os, h.tape, h.output, h.size, fun q hq _ => h.block q hq⟩
theorem KP.alloc {rb : Nat} {A B : World} (h : KP rb A B) (o : Obj) : KP rb A (B.alloc o) := h.trans (KP.of_below (below_alloc (Below.refl _ _) o))
theorem KP.drewN {rb : Nat} {A B : World} (h : KP rb A B) (q : Nat) : KP rb A (B.drewN q) := ⟨h.os, h.tape, h.output, h.size, h.block⟩
theorem KP.setCell {rb : Nat} {A B : World} (h : KP rb A B) (j : Nat) (v : Value) : KP rb A (B.setCell ⟨rb, j, none⟩ v) := h.trans ⟨rfl, rfl, rfl, by simp [World.setCell], fun q hq hn => Below.heap_setCell B ⟨rb, j, none⟩ v q hn⟩
theorem KP.below {rb B : Nat} {W W' : World} (h : KP rb W W') (hB : B ≤ rb) (hs : B ≤ W.heap.size) : Below B W W' := ⟨h.os, h.tape, h.output, h.size, fun k hk => h.block k (by omega) (by omega)⟩
theorem KP.kept {rb : Nat} {W W' : World} (h : KP rb W W') : Kept W W' (fun k => k = rb) := ⟨h.size, fun k hk hn => h.block k hk hn⟩
theorem KP.keepRow {rb : Nat} {W W' : World} (h : KP rb W W') {n₀ : Nat} (hn : n₀ ≤ W.heap.size) : KeepRow n₀ rb W W' := ⟨h.size, fun k hk hne => h.block k (by omega) hne⟩
theorem ownFrom_rowF {β : Type} {rb n : Nat} (F : β → Nat → Int) (B : Nat) : OwnFrom B (fun (s : β) W => RowF rb n (F s) W) := fun s W W' row hs hg hr => by
  refine hs.move (hg.block rb hs.lt (fun h => ?_))
  obtain ⟨_, o, ho, hc⟩ := hr rb h.symm
  obtain ⟨cur, h1, _⟩ := hs
  rw [h1] at ho
  injection ho with ho
  subst ho
  simp [Obj.isCells] at hc
theorem ownFrom_kp {β : Type} {rb : Nat} {W0 : World} {B : Nat} (hB : W0.heap.size ≤ B) : OwnFrom B (fun (_ : β) W => KP rb W0 W) := fun s W W' row hs hg hr =>
  ⟨hg.os.trans hs.os, hg.tape.trans hs.tape, hg.output.trans hs.output, Nat.le_trans hs.size hg.size, fun k hk hn => (hg.block k (by have := hs.size; omega) (fun h => by have := (hr k h.symm).1; omega)).trans (hs.block k hk hn)⟩
/-- Of a region's ways out the normal one alone. -/
def onlyN (K : Act → World → Prop) : Exit → Act → World → Prop
  | .normal, a, w => K a w
  | _, _, _ => False
theorem wpIn_only {F : Fence} {n : Nat} {P : Program} {c : Code} {Q : Exit → Act → World → Prop} {a : Act} {w : World} (h : c.wpIn F n P (onlyN (fun a w => Q .normal a w)) a w) : c.wpIn F n P Q a w :=
  wpIn_mono h (fun e a w hq => by cases e <;> first | exact hq | exact hq.elim)
/-- A region that draws its order, of which all ways come to one frame: the rest is walked once. -/
theorem wpIn_split {F : Fence} {n : Nat} {P : Program} {c : Code} {Q : Exit → Act → World → Prop} {a : Act} {w : World} (R : World → Prop)
    (h : ∃ T : Array Value, c.wpIn F n P (onlyN (fun a' w' => a' = { tmps := T, defers := a.defers } ∧ R w')) a w ∧ ∀ w', R w' → Q .normal { tmps := T, defers := a.defers } w') : c.wpIn F n P Q a w := by
  obtain ⟨T, h1, h2⟩ := h
  refine wpIn_mono h1 (fun e a' w' hq => ?_)
  cases e with
  | normal => obtain ⟨rfl, hr⟩ := hq; exact h2 _ hr
  | _ => exact hq.elim
def inside (x y rw rh w h : Int) : Prop := 0 ≤ x ∧ 0 ≤ y ∧ 0 ≤ rw ∧ 0 ≤ rh ∧ x + rw ≤ w ∧ y + rh ≤ h
instance (x y rw rh w h : Int) : Decidable (inside x y rw rh w h) := by unfold inside; infer_instance
theorem within_f (a n l : Int) (h1 : 0 ≤ l) (h2 : l ≤ 1073741824) : X.screen_within.f a n l = some (decide (0 ≤ a ∧ 0 ≤ n ∧ a + n ≤ l)) := by
  unfold X.screen_within.f
  by_cases ha : a ≥ 0
  · by_cases hn : n ≥ 0
    · by_cases hl : n ≤ l
      · rw [if_pos ha, if_pos hn, if_pos hl, w64 (by omega) (by omega)]; congr 1; rw [Bool.eq_iff_iff]; simp; omega
      · rw [if_pos ha, if_pos hn, if_neg hl]; congr 1; rw [Bool.eq_iff_iff]; simp; omega
    · rw [if_pos ha, if_neg hn]; congr 1; rw [Bool.eq_iff_iff]; simp; omega
  · rw [if_neg ha]; congr 1; rw [Bool.eq_iff_iff]; simp; omega
theorem inside_f (x y rw rh w h : Int) (h1 : 1 ≤ w ∧ w ≤ 4096 ∧ 1 ≤ h ∧ h ≤ 4096) : X.screen_Inside.f x y rw rh w h = some (decide (inside x y rw rh w h)) := by
  unfold X.screen_Inside.f
  rw [within_f x rw w (by omega) (by omega), within_f y rh h (by omega) (by omega)]
  simp only [Option.bind_some]
  by_cases ha : 0 ≤ x ∧ 0 ≤ rw ∧ x + rw ≤ w
  · rw [if_pos (decide_eq_true ha)]
    refine congrArg some (decide_eq_decide.2 ?_)
    unfold inside
    omega
  · rw [if_neg (by simpa using ha)]
    refine congrArg some (decide_eq_false ?_).symm
    unfold inside
    omega
theorem colour_f (n : Int) : X.screen_colour.f n = some (decide (0 ≤ n ∧ n ≤ 16777215)) := by
  unfold X.screen_colour.f
  split
  · congr 1; rw [Bool.eq_iff_iff]; simp; omega
  · congr 1; simp; omega
/-- The law of a range over a function, for a body that never leaves; the frame behind the assignment is found by the walk. -/
theorem rf_all {P : Program} {n : Nat} {α : Type} {g : Operand} {ps : Array Tmp} {assign body : Code} {Q : Exit → Act → World → Prop} {a : Act} {w : World} (h1 : 1 ≤ n) {gf : Nat} {lb : Array Value} (hg : a.eval g = .func (.func gf) #[] lb)
    (eg : ∀ args w, (callFunc gf args).run P w = .ok (.enter gf args) w) {encs : α → Array Value} {Kp : World → World → Prop} {S Sp : List α → Prop} {N : Nat} (hseq : SeqStopsK Fence.wide (n - 1) P gf lb encs Kp S Sp N w)
    (hKt : ∀ {A B C : World}, Kp A B → Kp B C → Kp A C) (hKb : ∀ (W : World) (l : Nat) (o o' : Obj), w.heap.size ≤ l → W.heap[l]? = some o → o.isCells = false → o.isWalk = false → Kp W (W.putObj l o')) (hps : ∀ x, (encs x).size = ps.size)
    (I : List α → World → Prop) (hI : OwnFrom w.heap.size I) (h0 : I [] w)
    (h : ∃ a₁ : α → Act, (∀ (l : Nat) (x : α) (W : World) (K : Act → World → Prop), K (a₁ x) W →
      assign.wpIn (Fence.wide.inRound l) (n - 1 - 1) P (Exit.then K (fun _ _ _ => False)) { tmps := (ps.zip (encs x)).foldl (fun t (p, v) => t.setIfInBounds p v) a.tmps, defers := [] } W) ∧
      (∀ (l : Nat) (pre : List α) (x : α) (W : World), I pre W → pre.length < N → body.wpIn (Fence.wide.inRound l) (n - 1 - 1) P (ownPostK Kp I (fun _ _ _ => False) (pre ++ [x]) W) (a₁ x) W) ∧
      (∀ (D : Nat) (xs : List α) (W : World), w.heap.size ≤ D → S xs → I xs W → W.heap[D]? = some (.deferred (some [])) → Q .normal { a with defers := { target := .collected D, args := #[] } :: a.defers } W)) :
    (Code.rangeFunc g ps assign body).wpIn Fence.wide n P Q a w := by
  obtain ⟨a₁, ha, hb, hd⟩ := h
  exact wpIn_rangeFunc_ownF rfl h1 hg trivial eg hseq hKt hKb (Below.refl _ _) hps I (fun _ _ _ => False) hI (fun _ _ _ _ _ hs _ _ => hs) h0 a₁ ha hb hd (fun _ _ _ _ _ _ h _ => h.elim)
/-- The colours when the rows pre have been filled. -/
def fillRows (w x y rw c : Int) (F : Nat → Int) {rh : Int} (pre : List {k : Nat // (k : Int) < rh}) : Nat → Int := fun i => if pre.any (fun k => decide ((y + k.1) * w + x ≤ i ∧ (i : Int) < (y + k.1) * w + x + rw)) then c else F i
theorem fillRows_all {w x y rw rh c : Int} {F : Nat → Int} (hw : 0 < w) (hx : 0 ≤ x) (hxw : x + rw ≤ w) (hrh : 0 ≤ rh) (pre : List {k : Nat // (k : Int) < rh}) (hp : pre.map (·.1) = List.range rh.toNat) (i : Nat) : fillRows w x y rw c F pre i = if inR w x y rw rh i then c else F i := by
  have key : ∀ n : Nat, (List.range n).any (fun k => decide ((y + (k : Int)) * w + x ≤ i ∧ (i : Int) < (y + (k : Int)) * w + x + rw)) = inR w x y rw n i := by
    intro n
    induction n with
    | zero => simp [inR_zero]
    | succ n ih => rw [List.range_succ, List.any_append, ih, inR_succ n i hw hx hxw]; simp
  have h2 := key rh.toNat
  rw [← hp, List.any_map, Int.toNat_of_nonneg hrh] at h2
  unfold fillRows
  rw [← h2]
  rfl
set_option maxHeartbeats 4000000 in
set_option maxRecDepth 100000 in
theorem Fill_c (B g rb : Nat) (w h : Int) (F : Nat → Int) (x y rw rh c : Int) (W : World) (hs : SIs B g rb w h F W) (hin : inside x y rw rh w h) (hc : 0 ≤ c ∧ c ≤ 16777215) :
    Calls Try.prog 18 #[.pointer (some ⟨g, 0, none⟩), .agg #[.int .i64 x, .int .i64 y, .int .i64 rw, .int .i64 rh], .int .i64 c] W fun e W' => e = .returned (.int .i64 0) ∧
      SIs B g rb w h (fun i => if inR w x y rw rh i then c else F i) W' ∧ KP rb W W' := by
  obtain ⟨c0, c1, c2⟩ := hs.cells
  have HS := Lib.hid hs
  have hf := inside_f x y rw rh w h hs.2.2.2
  rw [decide_eq_true hin] at hf
  have hf2 := colour_f c
  rw [decide_eq_true hc] at hf2
  have HF := Lib.hid hf
  have HF2 := Lib.hid hf2
  have hlt := hs.lt
  clear hf hf2 hs
  refine (callsIn_wide (n := 4)).1 ?_
  refine callsIn_of_wp_marks Try.func18 rfl trivial ?_ rfl
  simp only [Try.ntmps18, List.size_toArray, List.length_cons, List.length_nil, Nat.reduceAdd, Nat.reduceSub, Array.replicate_succ, Array.replicate_zero, List.push_toArray, List.append_toArray, List.nil_append, List.cons_append]
  gi_wp2
  refine wpIn_split (fun w1 => Below (W.heap.size + 2) ((W.alloc (.cells #[.int .i64 x, .int .i64 y, .int .i64 rw, .int .i64 rh] 30)).alloc (.cells #[.int .i64 c] 3)) w1) ?_
  apply Exists.intro
  refine ⟨?h1, ?h2⟩
  case h1 =>
    gi_region_with (refine ⟨trivial, ?_⟩; gi_at_call 31; refine (callsIn_wide.2 (X.screen_Inside.calls x y rw rh w h true _ HF.out)).mono ?_; rintro e w1 ⟨rfl, hb1⟩)
    all_goals
      simp only [onlyN]
      refine ⟨rfl, ?_⟩
      refine Below.trans ?_ (Below.mono hb1 (by simp))
      exact Below.drew (Below.refl _ _)
  rintro w1 hb1
  have hk1 : KP rb W w1 := (KP.alloc (KP.alloc (KP.refl rb W) _) _).trans (KP.of_below (by simpa using hb1))
  have hr1 : w1.heap[W.heap.size]? = some (.cells #[.int .i64 x, .int .i64 y, .int .i64 rw, .int .i64 rh] 30 (0, 0)) := (hb1.block _ (by omega)).trans ((Below.heap_alloc _ _ _ (by simp)).trans (heap_alloc_new W _))
  have hc1 : w1.heap[W.heap.size + 1]? = some (.cells #[.int .i64 c] 3 (0, 0)) := (hb1.block _ (by omega)).trans (by
    have := heap_alloc_new (W.alloc (.cells #[.int .i64 x, .int .i64 y, .int .i64 rw, .int .i64 rh] 30)) (.cells #[.int .i64 c] 3)
    rwa [World.size_alloc] at this)
  have hcc : w1.cell? ⟨W.heap.size + 1, 0, none⟩ = some (.int .i64 c) := by rw [World.cell?, hc1]; rfl
  have q0 : w1.cell? ⟨W.heap.size, 0, none⟩ = some (.int .i64 x) := by rw [World.cell?, hr1]; rfl
  have q1 : w1.cell? ⟨W.heap.size, 1, none⟩ = some (.int .i64 y) := by rw [World.cell?, hr1]; rfl
  have q2 : w1.cell? ⟨W.heap.size, 2, none⟩ = some (.int .i64 rw) := by rw [World.cell?, hr1]; rfl
  have q3 : w1.cell? ⟨W.heap.size, 3, none⟩ = some (.int .i64 rh) := by rw [World.cell?, hr1]; rfl
  have hbW : Below W.heap.size W w1 := (below_alloc (below_alloc (Below.refl _ _) _) _).trans (Below.mono hb1 (by omega))
  have HK1 := Lib.hid hk1
  have HR1 := Lib.hid hr1
  have HC1 := Lib.hid hc1
  clear hb1 hk1 hr1 hc1 c0 c1 c2
  gi_wp2_with (first | (refine ⟨trivial, ?_⟩; gi_at_call 37; refine (callsIn_wide.2 (X.screen_colour.calls c true _ HF2.out)).mono ?_; rintro e _ ⟨rfl, ⟨m, rfl⟩⟩) | (refine ⟨trivial, ?_⟩; gi_at_call 39; refine (callsIn_wide.2 (rows_c g x y rw rh _)).mono ?_; rintro e _ ⟨rfl, rfl⟩))
  have hg1 : w1.heap[g]? = W.heap[g]? := HK1.out.block g hlt.1 HS.out.1.2.2
  obtain ⟨Wl, hWl⟩ : ∃ Wl, ((w1.drewN m).alloc (.cells #[.pointer (some ⟨g, 0, none⟩)] 24)).alloc (.cells #[.int .i64 x, .int .i64 y, .int .i64 rw, .int .i64 rh] 30) = Wl := ⟨_, rfl⟩
  have hb2 : Below w1.heap.size w1 Wl := by rw [← hWl]; exact below_alloc (below_alloc (pw_below_drewN (Below.refl _ _) _) _) _
  have hsl : Wl.heap.size = w1.heap.size + 2 := by rw [← hWl]; simp
  have hBs : Wl.heap[w1.heap.size]? = some (.cells #[.pointer (some ⟨g, 0, none⟩)] 24 (0, 0)) := by
    rw [← hWl]; exact (Below.heap_alloc _ _ _ (by simp)).trans (heap_alloc_new (w1.drewN m) _)
  have hBr : Wl.heap[w1.heap.size + 1]? = some (.cells #[.int .i64 x, .int .i64 y, .int .i64 rw, .int .i64 rh] 30 (0, 0)) := by
    have := heap_alloc_new ((w1.drewN m).alloc (.cells #[.pointer (some ⟨g, 0, none⟩)] 24)) (.cells #[.int .i64 x, .int .i64 y, .int .i64 rw, .int .i64 rh] 30)
    rw [World.size_alloc, hWl] at this; exact this
  have hKl : KP rb W Wl := HK1.out.trans (KP.of_below hb2)
  have hsz1 := HK1.out.size
  have hgl : Wl.heap[g]? = some (.cells #[.int .i64 w, .int .i64 h, .slice (some ⟨rb, 0, none⟩) (w * h).toNat (w * h).toNat] 66 (0, 0)) := (hKl.block g hlt.1 HS.out.1.2.2).trans HS.out.2.1
  have hcl : Wl.heap[W.heap.size + 1]? = some (.cells #[.int .i64 c] 3 (0, 0)) := (hb2.block _ (blk_lt HC1.out)).trans HC1.out
  have hb1s := blk_lt HC1.out
  have hrl : RowF rb (w * h).toNat F Wl := HS.out.2.2.1.move (by
    rw [hb2.block rb (by omega)]
    exact hbW.block rb hlt.2)
  have hdim := HS.out.2.2.2
  have harea := area_le hdim.1 hdim.2.1 hdim.2.2.1 hdim.2.2.2
  obtain ⟨i1, i2, i3, i4, i5, i6⟩ := hin
  rw [hWl]
  refine rf_all (α := {k : Nat // (k : Int) < rh}) (by decide) rfl (enters_of Try.func45 (by kernel_rfl) rfl)
    (rows_stops 3 (by decide) (w1.heap.size + 1) w1.heap.size g rb Wl.heap.size rb x y rw rh w h (w * h).toNat i1 i2 i3 i4 i5 i6 (by omega) (by omega) (by omega) (by omega) ⟨by omega, by omega, by omega, by omega, by omega, HS.out.1.2.2⟩ Wl (Nat.le_refl _) hBr hBs hgl)
    keepRow_t (keepRow_b (Nat.le_refl _)) (fun _ => rfl)
    (fun pre Wx => RowF rb (w * h).toNat (fillRows w x y rw c F pre) Wx ∧ KP rb W Wx ∧ KP rb Wl Wx)
    (OwnFrom.and (ownFrom_rowF _ _) (OwnFrom.and (ownFrom_kp (by omega)) (ownFrom_kp (Nat.le_refl _))))
    ⟨hrl.ext (fun i _ => by simp [fillRows]), hKl, KP.refl _ _⟩ ?_
  apply Exists.intro
  refine ⟨?assign, ?body, ?done⟩
  case assign =>
    intro l x W K hK
    gi_wp2
    exact hK
  case body =>
    rintro l pre k Wx ⟨hR, hK, hKl2⟩ hlen
    have hfit := row_fits (k := k.1) (show 0 < w by omega) i1 i2 i3 i5 i6 k.2
    obtain ⟨fr, hfr⟩ : ∃ fr : Nat, (y + k.1) * w + x = fr := ⟨((y + k.1) * w + x).toNat, by omega⟩
    obtain ⟨rwn, rfl⟩ : ∃ rwn : Nat, rw = rwn := ⟨rw.toNat, by omega⟩
    obtain ⟨tot, htot⟩ : ∃ tot : Nat, (w * h).toNat = tot := ⟨_, rfl⟩
    rw [hfr] at hfit
    have hft : fr + rwn ≤ tot := by omega
    have htl : tot ≤ 16777216 := by omega
    have hcx : Wx.cell? ⟨W.heap.size + 1, 0, none⟩ = some (.int .i64 c) := by rw [World.cell?, hKl2.block (W.heap.size + 1) (by omega) (by omega), hcl]; rfl
    obtain ⟨A, hA⟩ : ∃ A : Addr, (if tot = fr then (⟨rb, 0, none⟩ : Addr) else ⟨rb, fr, none⟩) = A := ⟨_, rfl⟩
    have hA2 : 0 < rwn → A = ⟨rb, fr, none⟩ := fun h => by rw [← hA, if_neg (by omega)]
    have hrv : rowV rb (w * h).toNat ((y + k.1) * w + x).toNat (rwn : Int).toNat = .slice (some A) rwn (tot - fr) := by
      rw [hfr, Int.toNat_natCast, Int.toNat_natCast, htot]; unfold rowV; rw [hA]
    rw [htot] at hR
    have HR := Lib.hid hR
    have HK := Lib.hid hK
    have HKL := Lib.hid hKl2
    have HA2 := Lib.hid hA2
    have HTOT := Lib.hid htot
    have HFR := Lib.hid hfr
    have HWL := Lib.hid hWl
    have HCL := Lib.hid hcl
    have HBWL := Lib.hid (show W.heap.size + 1 < Wl.heap.size ∧ Wl.heap.size = Wl.heap.size from ⟨by omega, rfl⟩)
    clear hA hA2 hR hK hKl2 hWl hfr hgl hBr hBs hb2 hg1 hbW hKl hrl htot hcl
    simp only [hrv]
    gi_wp2
    gi_loopw [33] (fun p wr => ∃ j : Nat, j ≤ rwn ∧ p = .int .i64 j ∧ Hid (RowF rb tot (fun i => if fr ≤ i ∧ i < fr + j then c else fillRows w x y rwn c F pre i) wr) ∧ Hid (KeepsOthers Wx wr) ∧ Hid (KP rb Wx wr)) (fun i _ => rwn - (intOf i).toNat)
    case atStart => exact ⟨0, Nat.zero_le _, rfl, Lib.hid (HR.out.ext (fun i _ => by simp; omega)), Lib.hid (KeepsOthers.refl _), Lib.hid (KP.refl _ _)⟩
    case round =>
      obtain ⟨j, hj, rfl, HRj, HO, HKj⟩ := hrel
      by_cases hjl : j < rwn
      · obtain rfl := HA2.out (by omega)
        have hcw : wr.cell? ⟨W.heap.size + 1, 0, none⟩ = some (.int .i64 c) := by
          have hsz := HKL.out.size
          rw [World.cell?, HKj.out.block (W.heap.size + 1) (by have := HBWL.out.1; omega) (by omega), HKL.out.block (W.heap.size + 1) HBWL.out.1 (by omega), HCL.out]; rfl
        have hadd : (⟨rb, fr, none⟩ : Addr).add j = ⟨rb, fr + j, none⟩ := by unfold Addr.add; split <;> simp_all
        have k1 := HRj.out.cell (fr + j) (by omega)
        have k2 := HRj.out.frozen (fr + j)
        have k3 : wr.cell? ((⟨rb, fr, none⟩ : Addr).add j) = wr.cell? ⟨rb, fr + j, none⟩ := by rw [hadd]
        rw [k1] at k3
        have k4 : wr.frozen? ((⟨rb, fr, none⟩ : Addr).add j) = false := by rw [hadd]; exact k2
        have HADD := Lib.hid hadd
        clear hadd
        gi_wp2
        go_roundw
        case rel =>
          refine ⟨j + 1, by omega, by simp, Lib.hid ?_, Lib.hid (HO.out.trans (KeepsOthers.setCell _ _ _)), Lib.hid ?_⟩
          · have := HRj.out.set (fr + j) c
            first
              | rw [HADD.out]
              | skip
            refine this.ext (fun i _ => ?_)
            by_cases h1 : i = fr + j
            · rw [if_pos h1, if_pos (by omega)]
            · rw [if_neg h1]; congr 1; simp; omega
          · first
              | rw [HADD.out]
              | skip
            exact HKj.out.setCell _ _
        case measure => simp [intOf]; omega
      · gi_wp2
        refine ⟨HO.out, HKj.out.keepRow HKL.out.size, ?_, HK.out.trans HKj.out, HKL.out.trans HKj.out⟩
        rw [HTOT.out]
        refine HRj.out.ext (fun i _ => ?_)
        unfold fillRows
        rw [List.any_append, List.any_cons, List.any_nil, HFR.out]
        by_cases h1 : fr ≤ i ∧ i < fr + j
        · rw [if_pos h1, if_pos]
          rw [Bool.or_eq_true]; right; simp; omega
        · rw [if_neg h1]
          have h2 : decide ((fr : Int) ≤ i ∧ (i : Int) < fr + rwn) = false := decide_eq_false (by omega)
          rw [h2, Bool.false_or, Bool.or_false]
  case done =>
    rintro D xs Wx hD hS ⟨hR, hK, hKl2⟩ hDD
    gi_wp2
    refine ⟨by first | (simp; done) | rfl | trivial | omega, .inl ⟨_, _, rfl, run_takeDeferred hDD, ?_⟩⟩
    have hbx := belowK_b (w := Wl) (Nat.le_refl _) Wx D (.deferred (some [])) (.deferred none) hD hDD rfl rfl
    have hkf : KP rb W (Wx.putObj D (.deferred none)) := ⟨hbx.os.trans hK.os, hbx.tape.trans hK.tape, hbx.output.trans hK.output, Nat.le_trans hK.size hbx.size, fun q hq hn => (hbx.block q (by omega)).trans (hK.block q hq hn)⟩
    refine ⟨_, results_tmp rfl _ _ _, rfl, ?_, hkf⟩
    refine ⟨HS.out.1, (hkf.block g hlt.1 HS.out.1.2.2).trans HS.out.2.1, ?_, hdim⟩
    exact (hR.move (hbx.block rb (by omega))).ext (fun i _ => fillRows_all (by omega) i1 i5 i4 xs hS i)
end Go.Proofs.Ytjcibgopebpkiaa.SC
