/- What each Go function that these laws use answers: as a Lean function, with the proof that the machine's call comes to it. Written by a program of this session (xprint.py). -/
import Derived.Test.YtkmfhfejogjnfaaXx0
import Derived.Test.YtkmfhfejogjnfaaXx18
import Derived.Test.YtkmfhfejogjnfaaXx23
import Derived.Test.YtkmfhfejogjnfaaXx24
namespace Go.Proofs.Ytkmfhfejogjnfaa.X
open Go.RowKit Go.Proofs.YtkmfhfejogjnfaaW.PrintWords Go.Proofs.YtkmfhfejogjnfaaW.PrintLast Go.Proofs.YtkmfhfejogjnfaaW.PrintMore
attribute [local go_sem] max2_int min2_int max_two min_two max_three min_three max_four min_four   -- for this text's walks alone
set_option linter.unusedVariables false
set_option linter.unusedSimpArgs false

/-! ### rre_draw: function 43 -/
/-- So many places from one on are c. -/
def putN (l : List Int) (at_ : Nat) (c : Int) : Nat → List Int
  | 0 => l
  | n + 1 => (putN l at_ c n).set (at_ + n) c
/-- So many rows. -/
def putB (l : List Int) (at_ w n : Nat) (c : Int) : Nat → List Int
  | 0 => l
  | r + 1 => putN (putB l at_ w n c r) (at_ + r * w) c n
theorem putN_len (l : List Int) (at_ : Nat) (c : Int) : ∀ n, (putN l at_ c n).length = l.length
  | 0 => rfl
  | n + 1 => by unfold putN; rw [List.length_set, putN_len]
theorem putB_len (l : List Int) (at_ w n : Nat) (c : Int) : ∀ r, (putB l at_ w n c r).length = l.length
  | 0 => rfl
  | r + 1 => by unfold putB; rw [putN_len, putB_len]
def rre_draw.f (k : Nat) (a0_0 : Int) (a0_1 : Int) (a0_2 : Bool) (a0_3 : Bool) (a0_4 : Int) (a0_5 : Int) (a0_6 : Int) (a0_7 : Int) (a0_8 : Int) (a0_9 : Int) (a2 a3 : Int) : Nat → CSt → List Int → Option (Int × CSt × List Int)
  | 0, st, pix => some (0, st, pix)
  | m + 1, st, pix => (rre_next.f k st a0_0 a0_1 a0_2 a0_3 a0_4 a0_5 a0_6 a0_7 a0_8 a0_9).bind fun r => if r.1.2 = 0 then (screen_Inside.f r.1.1.f1.f0 r.1.1.f1.f1 r.1.1.f1.f2 r.1.1.f1.f3 a2 a3).bind fun ins =>
      if ins = true then (format_Colour.f a0_0 a0_1 a0_2 a0_3 a0_4 a0_5 a0_6 a0_7 a0_8 a0_9 r.1.1.f0).bind fun c => rre_draw.f k a0_0 a0_1 a0_2 a0_3 a0_4 a0_5 a0_6 a0_7 a0_8 a0_9 a2 a3 m r.2 (putB pix (r.1.1.f1.f1.toNat * a2.toNat + r.1.1.f1.f0.toNat) a2.toNat r.1.1.f1.f2.toNat c r.1.1.f1.f3.toNat) else some (140, r.2, pix) else some (r.1.2, r.2, pix)
theorem rre_draw.mono (k : Nat) (a0_0 : Int) (a0_1 : Int) (a0_2 : Bool) (a0_3 : Bool) (a0_4 : Int) (a0_5 : Int) (a0_6 : Int) (a0_7 : Int) (a0_8 : Int) (a0_9 : Int) (a2 a3 : Int) : ∀ (m : Nat) (st : CSt) (pix : List Int), LeO (rre_draw.f k a0_0 a0_1 a0_2 a0_3 a0_4 a0_5 a0_6 a0_7 a0_8 a0_9 a2 a3 m st pix) (rre_draw.f (k + 1) a0_0 a0_1 a0_2 a0_3 a0_4 a0_5 a0_6 a0_7 a0_8 a0_9 a2 a3 m st pix)
  | 0, st, pix => LeO.refl _
  | m + 1, st, pix => by
    unfold rre_draw.f
    exact LeO.bind (rre_next.mono _ _ _ _ _ _ _ _ _ _ _ _) fun _ => LeO.ite (LeO.bind (LeO.refl _) fun _ => LeO.ite (LeO.bind (LeO.refl _) fun _ => rre_draw.mono k a0_0 a0_1 a0_2 a0_3 a0_4 a0_5 a0_6 a0_7 a0_8 a0_9 a2 a3 m _ _) (LeO.refl _)) (LeO.refl _)
theorem inside_spec {x y u v : Int} {w h : Nat} (hw : w ≤ 4096) (hh : h ≤ 4096) (hi : screen_Inside.f x y u v (w : Int) (h : Int) = some true) : 0 ≤ x ∧ 0 ≤ y ∧ 0 ≤ u ∧ 0 ≤ v ∧ x + u ≤ w ∧ y + v ≤ h := by
  have key : ∀ (a b : Int) (m : Nat), m ≤ 4096 → screen_within.f a b (m : Int) = some true → 0 ≤ a ∧ 0 ≤ b ∧ a + b ≤ m := fun a b m hm hq => by
    unfold screen_within.f at hq
    split at hq
    · split at hq
      · split at hq
        · have h9 := of_decide_eq_true (Option.some.inj hq)
          unfold wrap64 at h9
          omega
        · cases hq
      · cases hq
    · cases hq
  unfold screen_Inside.f at hi
  obtain ⟨t, ht, hi⟩ := Option.bind_eq_some_iff.1 hi
  split at hi
  · rename_i ht1
    subst ht1
    obtain ⟨t2, ht2, hi⟩ := Option.bind_eq_some_iff.1 hi
    obtain rfl := Option.some.inj hi
    have h1 := key _ _ _ hw ht
    have h2 := key _ _ _ hh ht2
    omega
  · cases hi
/-- The worlds of draw: the cursor, the places, the format's box; all else of w is as it was. -/
structure DW (w0 w : World) (g tb n : Nat) (F : Obj) (st : CSt) (pix : List Int) (W : World) : Prop where
  st : IsS96 w0 W g st.1 st.2.1 st.2.2
  below : Below w0.heap.size w0 W
  own : W.ownsRow w0.heap.size 3 1 (.slice (some ⟨tb, 0, none⟩) n n) n (pix.map (Value.int .i64))
  size : w.heap.size ≤ W.heap.size
  keep : ∀ i, i < w.heap.size → i ≠ g → i ≠ tb → W.heap[i]? = w.heap[i]?
  fmt : W.heap[w.heap.size]? = some F
section
variable {w0 w W W' : World} {g tb n : Nat} {F : Obj} {st st' : CSt} {pix : List Int}
theorem DW.old (h : DW w0 w g tb n F st pix W) : tb < W.heap.size := by
  rcases h.own.2 with ⟨he, _⟩ | ⟨g', cap, cur, he, _, hg, _⟩
  · injection he with e1; cases e1
  · injection he with e1; injection e1 with e1; injection e1 with e1; subst e1; exact (Array.getElem?_eq_some_iff.1 hg).1
theorem DW.cur (h : DW w0 w g tb n F st pix W) : ∃ cs, W.heap[tb]? = some (.cells cs 3 (0, 0)) := by
  rcases h.own.2 with ⟨he, _⟩ | ⟨g', cap, cur, he, _, hg, _⟩
  · injection he with e1; cases e1
  · injection he with e1; injection e1 with e1; injection e1 with e1; subst e1; exact ⟨cur, hg⟩
theorem DW.ne (h : DW w0 w g tb n F st pix W) : tb ≠ g := fun e => by
  obtain ⟨cs, h1⟩ := h.cur
  have h2 := h.st.1
  rw [← e, h1] at h2
  injection h2 with h2
  injection h2 with _ h2
  exact absurd h2 (by decide)
theorem DW.len (h : DW w0 w g tb n F st pix W) : pix.length = n := by have := h.own.1; rw [List.length_map] at this; omega
theorem DW.step (h : DW w0 w g tb n F st pix W) (hb : Below W.heap.size W W') : DW w0 w g tb n F st pix W' :=
  ⟨h.st.below hb, h.below.trans (hb.mono h.below.size), h.own.kept (row := none) ⟨hb.os, hb.tape, hb.output, hb.size, fun k hk _ => hb.block k hk⟩ (.inr (by simp [Value.ownBlock])), Nat.le_trans h.size hb.size, fun i hi h1 h2 => (hb.block i (Nat.lt_of_lt_of_le hi h.size)).trans (h.keep i hi h1 h2), (hb.block _ (blk_lt h.fmt)).trans h.fmt⟩
theorem DW.next (h : DW w0 w g tb n F st pix W) (hg : w.heap.size ≠ g) (hc : CW w0 W g st' W') : DW w0 w g tb n F st' pix W' := by
  refine ⟨hc.st, hc.below, ?_, Nat.le_trans h.size hc.keep.1, fun i hi h1 h2 => (hc.keep.2 i (Nat.lt_of_lt_of_le hi h.size) h1 (by simp)).trans (h.keep i hi h1 h2), hc.keep.blk h.fmt hg (by simp)⟩
  obtain ⟨cs, h1⟩ := h.cur
  have h2 := hc.keep.blk h1 h.ne (by simp)
  refine ⟨h.own.1, ?_⟩
  rcases h.own.2 with ⟨he, _⟩ | ⟨g', cap, cur, he, q1, q2, q3⟩
  · injection he with e1; cases e1
  · injection he with e1 e2 e3; injection e1 with e1; injection e1 with e1; subst e1; subst e3
    rw [h1] at q2
    injection q2 with q2
    injection q2 with q2
    subst q2
    exact .inr ⟨_, _, _, rfl, q1, h2, q3⟩
theorem DW.put (h : DW w0 w g tb n F st pix W) (htw : tb ≠ w.heap.size) (j : Nat) (c : Int) : DW w0 w g tb n F st (pix.set j c) (W.setCell ⟨tb, j, none⟩ (.int .i64 c)) := by
  have hs := h.own.stored j (.int .i64 c)
  refine ⟨h.st.far h.ne.symm _, h.below.trans ⟨rfl, rfl, rfl, by simp, fun k hk => heap_setCell_other _ _ _ _ (by show k ≠ tb; have := own_ge h.own tb rfl; omega)⟩, by rw [List.map_set]; exact hs.1, by simpa using h.size, fun i hi h1 h2 => (heap_setCell_other _ _ _ _ (by show i ≠ tb; exact h2)).trans (h.keep i hi h1 h2), (heap_setCell_other _ _ _ _ (by show w.heap.size ≠ tb; exact htw.symm)).trans h.fmt⟩
theorem DW.cell (h : DW w0 w g tb n F st pix W) (j : Nat) (hj : j < n) : (∃ u, W.cell? ⟨tb, j, none⟩ = some u) ∧ W.frozen? ⟨tb, j, none⟩ = false := by
  have hl := h.len
  have h2 := h.own.cells (g := tb) rfl j (.int .i64 (pix[j]'(by omega))) (by rw [List.getElem?_map, List.getElem?_eq_getElem (by omega)]; rfl)
  rw [Addr.add_lit, Nat.zero_add] at h2
  refine ⟨⟨_, h2⟩, ?_⟩
  obtain ⟨cs, h1⟩ := h.cur
  exact blk_frozen h1 j
end
set_option maxHeartbeats 16000000 in
set_option maxRecDepth 100000 in
theorem rre_draw.calls (k g tb n : Nat) (st st' : CSt) (a0_0 : Int) (a0_1 : Int) (a0_2 : Bool) (a0_3 : Bool) (a0_4 : Int) (a0_5 : Int) (a0_6 : Int) (a0_7 : Int) (a0_8 : Int) (a0_9 : Int) (wd ht nn : Nat) (pix pix' : List Int) (er : Int) (w0 w : World) (hw0 : w0.heap.size ≤ w.heap.size) (hI : IsS96 w0 w g st.1 st.2.1 st.2.2) (hB : Below w0.heap.size w0 w) (ho : w.ownsRow w0.heap.size 3 1 (.slice (some ⟨tb, 0, none⟩) n n) n (pix.map (Value.int .i64))) (hn : n = wd * ht) (hw9 : wd ≤ 4096) (hh9 : ht ≤ 4096) (hnn : nn ≤ 4294967296)
    (h : rre_draw.f k a0_0 a0_1 a0_2 a0_3 a0_4 a0_5 a0_6 a0_7 a0_8 a0_9 (wd : Int) (ht : Int) nn st pix = some (er, st', pix')) :
    Calls Try.prog 43 #[.pointer (some ⟨g, 0, none⟩), .agg #[.int .i64 a0_0, .int .i64 a0_1, .bool a0_2, .bool a0_3, .int .i64 a0_4, .int .i64 a0_5, .int .i64 a0_6, .int .i64 a0_7, .int .i64 a0_8, .int .i64 a0_9], .int .i64 (wd : Int), .int .i64 (ht : Int), .int .i64 (nn : Int), .slice (some ⟨tb, 0, none⟩) n n] w fun e w' => e = .returned (.int .i64 er) ∧ DW w0 w g tb n (.cells #[.int .i64 a0_0, .int .i64 a0_1, .bool a0_2, .bool a0_3, .int .i64 a0_4, .int .i64 a0_5, .int .i64 a0_6, .int .i64 a0_7, .int .i64 a0_8, .int .i64 a0_9] 37 (0, 0)) st' pix' w' := by
  have hg := hI.lt
  have D0 := Lib.hid (show DW w0 w g tb n (.cells #[.int .i64 a0_0, .int .i64 a0_1, .bool a0_2, .bool a0_3, .int .i64 a0_4, .int .i64 a0_5, .int .i64 a0_6, .int .i64 a0_7, .int .i64 a0_8, .int .i64 a0_9] 37 (0, 0)) st pix (w.alloc (.cells #[.int .i64 a0_0, .int .i64 a0_1, .bool a0_2, .bool a0_3, .int .i64 a0_4, .int .i64 a0_5, .int .i64 a0_6, .int .i64 a0_7, .int .i64 a0_8, .int .i64 a0_9] 37)) by
    have hb := below_alloc (Below.refl w.heap.size w) (.cells #[.int .i64 a0_0, .int .i64 a0_1, .bool a0_2, .bool a0_3, .int .i64 a0_4, .int .i64 a0_5, .int .i64 a0_6, .int .i64 a0_7, .int .i64 a0_8, .int .i64 a0_9] 37)
    exact ⟨hI.below hb, hB.trans (hb.mono hB.size), ho.alloc _, hb.size, fun i hi _ _ => hb.block i hi, heap_alloc_new w _⟩)
  have HTW := Lib.hid (show tb ≠ w.heap.size by
    rcases ho.2 with ⟨he, _⟩ | ⟨g', cap, cur, he, _, hq, _⟩
    · injection he with e1; cases e1
    · injection he with e1; injection e1 with e1; injection e1 with e1; subst e1; exact Nat.ne_of_lt (Array.getElem?_eq_some_iff.1 hq).1)
  have HN := Lib.hid hn; have HG := Lib.hid hg; have HW0 := Lib.hid hw0; have H := Lib.hid h; have HHW := Lib.hid (And.intro hw9 hh9)
  clear hI hB ho hg hn hw0 h
  go_enter Try.func43, Try.ntmps43
  go_wp2_with fail
  go_loopw [20] (fun q w' => ∃ (i : Nat) (s : CSt) (px : List Int), i ≤ nn ∧ q = .int .i64 (i : Int) ∧ Hid (DW w0 w g tb n (.cells #[.int .i64 a0_0, .int .i64 a0_1, .bool a0_2, .bool a0_3, .int .i64 a0_4, .int .i64 a0_5, .int .i64 a0_6, .int .i64 a0_7, .int .i64 a0_8, .int .i64 a0_9] 37 (0, 0)) s px w') ∧ Hid (rre_draw.f k a0_0 a0_1 a0_2 a0_3 a0_4 a0_5 a0_6 a0_7 a0_8 a0_9 (wd : Int) (ht : Int) (nn - i) s px = some (er, st', pix'))) (fun q _ => nn - (intOf q).toNat)
  case atStart => exact ⟨0, st, pix, Nat.zero_le _, rfl, D0, H⟩
  case round =>
    obtain ⟨i, s, px, hi, rfl, HD, HX⟩ := hrel
    by_cases hlt : i < nn
    · obtain ⟨m, hm⟩ : ∃ m, nn - i = m + 1 := ⟨nn - i - 1, by omega⟩
      have hx := HX.out
      rw [hm] at hx
      unfold rre_draw.f at hx
      obtain ⟨⟨⟨pc, ne⟩, s2⟩, hnx, hx⟩ := Option.bind_eq_some_iff.1 hx
      have d0 : decide ((i : Int) < (nn : Int)) = true := decide_eq_true (by omega)
      have d1 : decide (i < nn) = true := decide_eq_true hlt
      have p0 : (0 : Int) ≤ (i : Int) := by omega
      have p1 : (i : Int) < (nn : Int) := by omega
      have HM := Lib.hid (And.intro hm hlt); have HNX := Lib.hid hnx; have HXX := Lib.hid hx
      clear hm hlt hnx hx HX hi
      have HK := Lib.hid HD.out.fmt
      have q0 := (blk_cell HK.out 0).trans rfl; have q1 := (blk_cell HK.out 1).trans rfl; have q2 := (blk_cell HK.out 2).trans rfl; have q3 := (blk_cell HK.out 3).trans rfl; have q4 := (blk_cell HK.out 4).trans rfl; have q5 := (blk_cell HK.out 5).trans rfl; have q6 := (blk_cell HK.out 6).trans rfl; have q7 := (blk_cell HK.out 7).trans rfl; have q8 := (blk_cell HK.out 8).trans rfl; have q9 := (blk_cell HK.out 9).trans rfl
      go_wp2_with fail
      clear q0 q1 q2 q3 q4 q5 q6 q7 q8 q9
      refine (rre_next.calls k g s s2 a0_0 a0_1 a0_2 a0_3 a0_4 a0_5 a0_6 a0_7 a0_8 a0_9 pc ne w0 _ (Nat.le_trans HW0.out HD.out.size) HD.out.st HD.out.below HNX.out).mono ?_; rintro e y1 ⟨rfl, hc⟩
      have D1 := Lib.hid (HD.out.next (Nat.ne_of_gt HG.out) hc); clear hc HD HNX HK
      have D2 := Lib.hid (D1.out.step (below_alloc (Below.refl _ _) (.cells #[.int .i64 pc.f0, .int .i64 pc.f1.f0, .int .i64 pc.f1.f1, .int .i64 pc.f1.f2, .int .i64 pc.f1.f3] 31))); have X2 := Lib.hid (heap_alloc_new y1 (.cells #[.int .i64 pc.f0, .int .i64 pc.f1.f0, .int .i64 pc.f1.f1, .int .i64 pc.f1.f2, .int .i64 pc.f1.f3] 31)); have LT := Lib.hid (show tb ≠ y1.heap.size from Nat.ne_of_lt D1.out.old)
      by_cases he : ne = 0
      rotate_left
      · have hx := HXX.out
        rw [if_neg he] at hx
        obtain ⟨rfl, rfl, rfl⟩ : ne = er ∧ s2 = st' ∧ px = pix' := by have h8 := Option.some.inj hx; exact ⟨congrArg (fun x => x.1) h8, congrArg (fun x => x.2.1) h8, congrArg (fun x => x.2.2) h8⟩
        have e1 : (ne != 0) = true := by simpa using he
        have e2 : (ne == 0) = false := by simpa using he
        clear he hx
        go_wp2
        go_ret
        exact ⟨rfl, D2.out⟩
      have hx := HXX.out
      rw [if_pos he] at hx
      subst he
      obtain ⟨ins, hin, hx⟩ := Option.bind_eq_some_iff.1 hx
      have HIN := Lib.hid hin; have HX3 := Lib.hid hx; clear hin hx HXX
      have x0 := (blk_cell X2.out 0).trans rfl; have x1 := (blk_cell X2.out 1).trans rfl; have x2 := (blk_cell X2.out 2).trans rfl; have x3 := (blk_cell X2.out 3).trans rfl; have x4 := (blk_cell X2.out 4).trans rfl
      go_wp2_with fail
      clear x0 x1 x2 x3 x4
      refine (screen_Inside.calls pc.f1.f0 pc.f1.f1 pc.f1.f2 pc.f1.f3 (wd : Int) (ht : Int) ins _ HIN.out).mono ?_; rintro e y3 ⟨rfl, hb⟩
      have D3 := Lib.hid (D2.out.step hb); have X3 := Lib.hid ((hb.block _ (blk_lt X2.out)).trans X2.out); clear hb D2 X2
      cases ins with
      | false =>
        have hx := HX3.out
        rw [if_neg (by decide)] at hx
        obtain ⟨rfl, rfl, rfl⟩ : (140 : Int) = er ∧ s2 = st' ∧ px = pix' := by have h8 := Option.some.inj hx; exact ⟨congrArg (fun x => x.1) h8, congrArg (fun x => x.2.1) h8, congrArg (fun x => x.2.2) h8⟩
        clear hx
        go_wp2
        go_ret
        exact ⟨rfl, D3.out⟩
      | true =>
        have hx := HX3.out
        rw [if_pos rfl] at hx
        obtain ⟨c, hc, hx⟩ := Option.bind_eq_some_iff.1 hx
        have hsp := inside_spec HHW.out.1 HHW.out.2 HIN.out
        obtain ⟨v, ⟨rx, ry, rw_, rh⟩⟩ := pc
        simp only at hsp hc hx X3
        obtain ⟨x, rfl⟩ := Int.eq_ofNat_of_zero_le hsp.1
        obtain ⟨y, rfl⟩ := Int.eq_ofNat_of_zero_le hsp.2.1
        obtain ⟨u, rfl⟩ := Int.eq_ofNat_of_zero_le hsp.2.2.1
        obtain ⟨t, rfl⟩ := Int.eq_ofNat_of_zero_le hsp.2.2.2.1
        simp only [Int.toNat_natCast] at hx
        have hsp2 : x + u ≤ wd ∧ y + t ≤ ht := by omega
        have HSP := Lib.hid hsp2; have HC := Lib.hid hc; have HX4 := Lib.hid hx; have X4 := Lib.hid X3.out
        clear hsp hsp2 hc hx HX3 HIN X3
        have HK := Lib.hid D3.out.fmt
        have q0 := (blk_cell HK.out 0).trans rfl; have q1 := (blk_cell HK.out 1).trans rfl; have q2 := (blk_cell HK.out 2).trans rfl; have q3 := (blk_cell HK.out 3).trans rfl; have q4 := (blk_cell HK.out 4).trans rfl; have q5 := (blk_cell HK.out 5).trans rfl; have q6 := (blk_cell HK.out 6).trans rfl; have q7 := (blk_cell HK.out 7).trans rfl; have q8 := (blk_cell HK.out 8).trans rfl; have q9 := (blk_cell HK.out 9).trans rfl
        have x0 := (blk_cell X4.out 0).trans rfl
        go_wp2_with fail
        clear q0 q1 q2 q3 q4 q5 q6 q7 q8 q9
        clear x0
        refine (format_Colour.calls a0_0 a0_1 a0_2 a0_3 a0_4 a0_5 a0_6 a0_7 a0_8 a0_9 v c _ HC.out).mono ?_; rintro e y4 ⟨rfl, hb⟩
        have D4 := Lib.hid (D3.out.step hb); have X5 := Lib.hid ((hb.block _ (blk_lt X4.out)).trans X4.out); clear hb D3 X4 HK
        have x4 := (blk_cell X5.out 4).trans rfl
        go_wp2_with fail
        clear x4
        obtain ⟨YW, hYW⟩ : ∃ YW, y * wd = YW := ⟨_, rfl⟩
        obtain ⟨P, hP⟩ : ∃ P, YW + x = P := ⟨_, rfl⟩
        rw [hYW, hP] at HX4
        have hsp := HSP.out; have hhw := HHW.out
        have hidx : ∀ a b : Nat, a < wd → b < ht → b * wd + a < n := fun a b ha hb => by
          have h3 : (b + 1) * wd ≤ ht * wd := Nat.mul_le_mul_right wd hb
          rw [Nat.add_mul, Nat.one_mul] at h3
          rw [HN.out, Nat.mul_comm wd ht]; omega
        have HIDX := Lib.hid hidx; have HYW := Lib.hid hYW; have HPP := Lib.hid hP
        have hn9 : n ≤ 16777216 := by rw [HN.out]; exact Nat.mul_le_mul hhw.1 hhw.2
        clear hidx hYW hP hsp hhw
        go_loopw [46] (fun q w' => ∃ r : Nat, r ≤ t ∧ q = .int .i64 (r : Int) ∧ Hid (DW w0 w g tb n (.cells #[.int .i64 a0_0, .int .i64 a0_1, .bool a0_2, .bool a0_3, .int .i64 a0_4, .int .i64 a0_5, .int .i64 a0_6, .int .i64 a0_7, .int .i64 a0_8, .int .i64 a0_9] 37 (0, 0)) s2 (putB px P wd u c r) w' ∧ w'.heap[y1.heap.size]? = some (.cells #[.int .i64 v, .int .i64 (x : Int), .int .i64 (y : Int), .int .i64 (u : Int), .int .i64 (t : Int)] 31 (0, 0)))) (fun q _ => t - (intOf q).toNat)
        case atStart => exact ⟨0, Nat.zero_le _, rfl, Lib.hid ⟨D4.out, X5.out⟩⟩
        case round =>
          obtain ⟨r, hr, rfl, HR⟩ := hrel
          by_cases hlt : r < t
          · have e0 : decide ((r : Int) < (t : Int)) = true := decide_eq_true (by omega)
            have e1 : decide (r < t) = true := decide_eq_true hlt
            have x1 := (blk_cell HR.out.2 1).trans rfl; have x2 := (blk_cell HR.out.2 2).trans rfl; have x3 := (blk_cell HR.out.2 3).trans rfl
            obtain ⟨YR, hYR⟩ : ∃ YR, y + r = YR := ⟨_, rfl⟩
            obtain ⟨ZR, hZR⟩ : ∃ ZR, YR * wd = ZR := ⟨_, rfl⟩
            obtain ⟨AT, hAT⟩ : ∃ AT, ZR + x = AT := ⟨_, rfl⟩
            have hz : 0 < u → AT + u ≤ n := fun hu => by have := HIDX.out (x + u - 1) YR (by have := HSP.out; omega) (by have := HSP.out; omega); rw [hZR] at this; omega
            have hz9 : ZR ≤ 16777216 ∧ AT ≤ 16785000 := by
              have h1 : YR * wd ≤ 4096 * 4096 := Nat.mul_le_mul (by have := HSP.out; have := HHW.out; omega) HHW.out.1
              have := HSP.out; have := HHW.out
              omega
            have hat : Hid (AT = P + r * wd) := Lib.hid (by rw [← hAT, ← hZR, ← hYR, Nat.add_mul, HYW.out, ← HPP.out]; omega)
            have HZ := Lib.hid hz; have HZ9 := Lib.hid hz9
            have W4 := Lib.hid (cwA _ _ _ hYR (by have := HSP.out; have := HHW.out; omega)); have W5 := Lib.hid (cwM _ _ _ hZR (by omega)); have W6 := Lib.hid (cwA _ _ _ hAT (by omega)); have HLT := Lib.hid (And.intro hr hlt)
            clear hYR hZR hAT hz hz9 hr hlt
            have w4 := W4.out; have w5 := W5.out; have w6 := W6.out
            go_wp2_with fail
            clear w4 w5 w6 x1 x2 x3
            go_loopw [63] (fun q w' => ∃ j : Nat, j ≤ u ∧ q = .int .i64 (j : Int) ∧ Hid (DW w0 w g tb n (.cells #[.int .i64 a0_0, .int .i64 a0_1, .bool a0_2, .bool a0_3, .int .i64 a0_4, .int .i64 a0_5, .int .i64 a0_6, .int .i64 a0_7, .int .i64 a0_8, .int .i64 a0_9] 37 (0, 0)) s2 (putN (putB px P wd u c r) AT c j) w' ∧ w'.heap[y1.heap.size]? = some (.cells #[.int .i64 v, .int .i64 (x : Int), .int .i64 (y : Int), .int .i64 (u : Int), .int .i64 (t : Int)] 31 (0, 0)))) (fun q _ => u - (intOf q).toNat)
            case atStart => exact ⟨0, Nat.zero_le _, rfl, HR⟩
            case round =>
              obtain ⟨j, hj, rfl, HJ⟩ := hrel
              by_cases hlj : j < u
              · have e2 : decide ((j : Int) < (u : Int)) = true := decide_eq_true (by omega)
                have e3 : decide (j < u) = true := decide_eq_true hlj
                obtain ⟨J, hJ⟩ : ∃ J, AT + j = J := ⟨_, rfl⟩
                have hJn : J < n := by have := HZ.out (by omega); omega
                obtain ⟨⟨u_, hu⟩, hf⟩ := HJ.out.1.cell J hJn
                have q0 : (0 : Int) ≤ (J : Int) := by omega
                have q1 : (J : Int) < (n : Int) := by omega
                have W8 := Lib.hid (cwA _ _ _ hJ (by omega)); have HJE := Lib.hid hJ; have HLJ := Lib.hid hlj
                have W9 := Lib.hid (cw1 j (by have := HSP.out; have := HHW.out; omega))
                clear hJ hlj hj
                have w8 := W8.out; have w6 := W6.out
                go_wp2
                clear w8 w6
                go_roundw
                case rel =>
                  have := HLJ.out
                  refine ⟨j + 1, by omega, by rw [W9.out], Lib.hid ⟨?_, ?_⟩⟩
                  · show DW w0 w g tb n (.cells #[.int .i64 a0_0, .int .i64 a0_1, .bool a0_2, .bool a0_3, .int .i64 a0_4, .int .i64 a0_5, .int .i64 a0_6, .int .i64 a0_7, .int .i64 a0_8, .int .i64 a0_9] 37 (0, 0)) s2 ((putN (putB px P wd u c r) AT c j).set (AT + j) c) _
                    rw [HJE.out]
                    exact HJ.out.1.put HTW.out J c
                  · exact (heap_setCell_other _ _ _ _ (by show y1.heap.size ≠ tb; exact LT.out.symm)).trans HJ.out.2
                case measure => have := HLJ.out; rw [W9.out]; simp [intOf]; omega
              · have e2 : decide ((j : Int) < (u : Int)) = false := decide_eq_false (by omega)
                have e3 : decide (j < u) = false := decide_eq_false hlj
                have hju : Hid (j = u) := Lib.hid (by omega)
                have W7 := Lib.hid (cw1 r (by have := HSP.out; have := HHW.out; have := HLT.out; omega))
                clear hlj hj
                go_wp2
                go_roundw
                case rel =>
                  have := HLT.out
                  refine ⟨r + 1, by omega, by rw [W7.out], Lib.hid ⟨?_, HJ.out.2⟩⟩
                  show DW w0 w g tb n (.cells #[.int .i64 a0_0, .int .i64 a0_1, .bool a0_2, .bool a0_3, .int .i64 a0_4, .int .i64 a0_5, .int .i64 a0_6, .int .i64 a0_7, .int .i64 a0_8, .int .i64 a0_9] 37 (0, 0)) s2 (putN (putB px P wd u c r) (P + r * wd) c u) _
                  rw [← hat.out]
                  have h := HJ.out.1
                  rw [hju.out] at h
                  exact h
                case measure => have := HLT.out; rw [W7.out]; simp [intOf]; omega
          · have e0 : decide ((r : Int) < (t : Int)) = false := decide_eq_false (by omega)
            have e1 : decide (r < t) = false := decide_eq_false hlt
            have hrt : Hid (r = t) := Lib.hid (by omega)
            clear hlt hr
            go_wp2
            go_roundw
            case rel =>
              have := HM.out
              refine ⟨i + 1, s2, _, by omega, by go_num, Lib.hid HR.out.1, Lib.hid ?_⟩
              rw [show nn - (i + 1) = m by omega, hrt.out]
              exact HX4.out
            case measure => have := HM.out; simp [intOf]; omega
    · have hin : nn - i = 0 := by omega
      have hx := HX.out
      rw [hin] at hx
      obtain ⟨rfl, rfl, rfl⟩ : (0 : Int) = er ∧ s = st' ∧ px = pix' := by have h8 := Option.some.inj hx; exact ⟨congrArg (fun x => x.1) h8, congrArg (fun x => x.2.1) h8, congrArg (fun x => x.2.2) h8⟩
      have d0 : decide ((i : Int) < (nn : Int)) = false := decide_eq_false (by omega)
      have d1 : decide (i < nn) = false := decide_eq_false hlt
      clear hin hx HX hlt
      go_wp2
      go_ret
      exact ⟨rfl, HD.out⟩

end Go.Proofs.Ytkmfhfejogjnfaa.X
