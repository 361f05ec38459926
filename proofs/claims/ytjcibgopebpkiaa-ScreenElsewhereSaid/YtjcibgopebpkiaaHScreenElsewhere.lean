/- ScreenElsewhere: what is drawn on is as it was elsewhere; twice filled is once filled; what is moved there and back, apart, is there. No condition. -/
-- OPEN 3 Go.Proofs.Ytjcibgopebpkiaa.RC.open_rect fa fb fc fd : ga gb gc gd
import Derived.Test.YtjcibgopebpkiaaSCV
import Derived.Test.YtjcibgopebpkiaaRC
import Derived.Deep.DeepCutAuto
import Derived.Deep.RegionHeld3
namespace Go.Proofs.Ytjcibgopebpkiaa.H
open Go.RowKit Go.Proofs.YtjcibgopebpkiaaW.PrintWords Go.Proofs.YtjcibgopebpkiaaW.PrintLast Go.Proofs.YtjcibgopebpkiaaW.PrintMore Go.Proofs.Ytjcibgopebpkiaa.B Go.Proofs.Ytjcibgopebpkiaa.SCP Go.Proofs.Ytjcibgopebpkiaa.SC
set_option linter.unusedVariables false
set_option linter.unusedSimpArgs false
theorem inR_at {w h x y rx ry rw rh : Int} (hx : 0 ≤ x ∧ x < w) (hy : 0 ≤ y ∧ y < h) : inR w rx ry rw rh (y * w + x).toNat = decide (rx ≤ x ∧ x < rx + rw ∧ ry ≤ y ∧ y < ry + rh) := by
  have hp := place_le (w := w) (h := h) hx.1 hy.1 hx.2 hy.2
  obtain ⟨q1, q2⟩ := (Int.ediv_emod_unique (a := y * w + x) (b := w) (r := x) (q := y) (by omega)).2 ⟨by rw [Int.mul_comm w y]; omega, by omega, by omega⟩
  unfold inR
  rw [Int.toNat_of_nonneg hp.2.1, q1, q2]
/-- What At tells behind a Fill. -/
theorem at_fill {w h x y rx ry rw rh c : Int} {F : Nat → Int} (hin : inside rx ry rw rh w h) :
    atF w h (fun i => if inR w rx ry rw rh i = true then c else F i) x y = if rx ≤ x ∧ x < rx + rw ∧ ry ≤ y ∧ y < ry + rh then c else atF w h F x y := by
  obtain ⟨i1, i2, i3, i4, i5, i6⟩ := hin
  unfold atF
  by_cases ho : x < 0 ∨ y < 0 ∨ x ≥ w ∨ y ≥ h
  · rw [if_pos ho, if_pos ho, if_neg (by omega)]
  · rw [if_neg ho, if_neg ho]
    show (if inR w rx ry rw rh (y * w + x).toNat = true then c else F (y * w + x).toNat) = _
    rw [inR_at (h := h) (by omega) (by omega)]
    by_cases hc : rx ≤ x ∧ x < rx + rw ∧ ry ≤ y ∧ y < ry + rh
    · rw [if_pos hc, if_pos (decide_eq_true hc)]
    · rw [if_neg hc, if_neg (by rw [decide_eq_true_iff]; exact hc)]
theorem blit_part0 {w h x y rw rh : Int} {F Fa : Nat → Int} (h1 : 1 ≤ w ∧ w ≤ 4096 ∧ 1 ≤ h ∧ h ≤ 4096) (hin : inside x y rw rh w h) (i : Nat) : blitF w x y rw rh F (partF w x y Fa rw.toNat) i = if inR w x y rw rh i = true then Fa i else F i := by
  unfold blitF
  split
  · rename_i hR
    have hR2 := hR
    unfold inR at hR2
    have hR2 := of_decide_eq_true hR2
    have hx := @idxR_lt w x y rw rh i (by omega) hin.2.2.1 hR (by have := rect_le h1 hin; omega)
    refine cnt_in h1 hin i hR Fa _ ?_
    unfold cnt
    rw [if_pos ⟨hR2.2.2.1, hR2.2.2.2⟩]
    have h1' : cl ((i : Int) / w) y rh = (i : Int) / w - y := by unfold cl; omega
    have h2' : cl ((i : Int) % w) x rw = (i : Int) % w - x := by unfold cl; omega
    rw [h1', h2']
    unfold idxR
    omega
  · rfl
theorem fill_err {w h x y rw rh c : Int} {F : Nat → Int} (h0 : fillE w h x y rw rh c ≠ 0) : fillG w h x y rw rh c F = F := by
  unfold fillE at h0
  unfold fillG
  rw [if_neg]
  rintro ⟨h1, h2⟩
  rw [if_pos h1, if_pos h2] at h0
  exact h0 rfl
theorem fill_ok {w h x y rw rh c : Int} {F : Nat → Int} (h0 : fillE w h x y rw rh c = 0) : inside x y rw rh w h ∧ isC c = true ∧ fillG w h x y rw rh c F = fun i => if inR w x y rw rh i = true then c else F i := by
  unfold fillE at h0
  by_cases h1 : inside x y rw rh w h
  · rw [if_pos h1] at h0
    by_cases h2 : isC c = true
    · exact ⟨h1, h2, if_pos ⟨h1, h2⟩⟩
    · rw [if_neg h2] at h0; cases h0
  · rw [if_neg h1] at h0; cases h0
theorem Scr.dr {B g rb : Nat} {w h : Int} {F : Nat → Int} {W : World} (hs : Scr B g rb w h F W) (q : Nat) : Scr B g rb w h F (W.drewN q) := ⟨hs.1.drewN q, hs.2⟩
set_option maxHeartbeats 4000000 in
set_option maxRecDepth 100000 in
theorem ScreenElsewhere_walk (w h : Int) (a : Option Addr) (len cap : Nat) (zs : List Int) (rx ry rw rh c x y : Int) (W : World) (hw : (Lit.int .i64 w).wf = true) (hh : (Lit.int .i64 h).wf = true) (hz : (a = none ∧ len = 0 ∧ cap = 0 ∧ zs = []) ∨ ∃ x, a = some x ∧ len ≤ cap ∧ cap ≤ maxLen ∧ zs.length = cap ∧ (∀ i, i < zs.length → W.cell? (x.add i) = some (.int .i64 (zs.getD i 0))) ∧ ∀ n ∈ zs, (Lit.int .i64 n).wf = true) (hsz : len * 8 ≤ 140737488351232)
    (h1 : (Lit.int .i64 rx).wf = true) (h2 : (Lit.int .i64 ry).wf = true) (h3 : (Lit.int .i64 rw).wf = true) (h4 : (Lit.int .i64 rh).wf = true) (h5 : (Lit.int .i64 c).wf = true) (h6 : (Lit.int .i64 x).wf = true) (h7 : (Lit.int .i64 y).wf = true) :
    Calls Try.prog 4 #[.int .i64 w, .int .i64 h, .slice a len cap, .agg #[.int .i64 rx, .int .i64 ry, .int .i64 rw, .int .i64 rh], .int .i64 c, .int .i64 x, .int .i64 y] W fun e W' => e = .returned (.bool true) ∧ Below W.heap.size W W' := by
  obtain ⟨w0, w1⟩ := wf64 hw
  obtain ⟨h0, h1'⟩ := wf64 hh
  obtain ⟨hpl, hlc, hcm, hp⟩ := ci_of hz
  obtain ⟨xs, hxs⟩ : ∃ xs, zs.take len = xs := ⟨_, rfl⟩
  rw [hxs] at hp hpl
  have HP := Lib.hid hp
  have hxl := hpl
  obtain ⟨K, hK⟩ : ∃ K : Nat, 40000000 ≤ K := ⟨_, Nat.le_refl _⟩
  have HBX := Lib.hid (below_alloc (Below.refl W.heap.size W) (.cells #[.int .i64 rx, .int .i64 ry, .int .i64 rw, .int .i64 rh] 30))
  have HGX := Lib.hid (heap_alloc_new W (.cells #[.int .i64 rx, .int .i64 ry, .int .i64 rw, .int .i64 rh] 30))
  clear hw hh hz hp hpl hxs h1 h2 h3 h4 h5 h6 h7
  by_cases hg : 1 ≤ w ∧ w ≤ 20 ∧ 1 ≤ h ∧ h ≤ 20
  · obtain ⟨g1, g2, g3, g4⟩ := hg
    have harea := area_20 g1 g2 g3 g4
    have hd4 : 1 ≤ w ∧ w ≤ 4096 ∧ 1 ≤ h ∧ h ≤ 4096 := by omega
    go_enter Try.func4, Try.ntmps4
    go_wp2_with fail
    refine (works_c _).mono ?_
    rintro e W1 ⟨rfl, hb⟩
    have HB := Lib.hid (HBX.out.trans (Below.mono hb HBX.out.size))
    have HG1 := Lib.hid ((hb.block W.heap.size (by simp)).trans HGX.out)
    clear hb
    go_wp2_with fail
    refine (New_s W.heap.size w h _ HB.out.size (by omega)).mono ?_
    rintro e W2 ⟨ga, ra, rfl, hs, hga, hra, hb⟩
    have HS := Lib.hid hs
    have HB2 := Lib.hid (HB.out.trans (Below.mono hb HB.out.size))
    have HG2 := Lib.hid ((hb.block W.heap.size (blk_lt HG1.out)).trans HG1.out)
    have hgx := blk_lt HG1.out
    clear hs hb
    go_wp2_with fail
    refine (X.screen_Whole.calls w h 0 0 w h _ rfl).mono ?_
    rintro e W3 ⟨rfl, hb⟩
    have HS3 := Lib.hid (HS.out.below hb)
    have HB3 := Lib.hid (HB2.out.trans (Below.mono hb HB2.out.size))
    have HG3 := Lib.hid ((hb.block W.heap.size (blk_lt HG2.out)).trans HG2.out)
    clear hb
    go_wp2_with fail
    have hbl := Blit_s W.heap.size ga ra w h (fun _ => 0) 0 0 w h a xs cap W3 HS3.out (Kd.C_below HP.out HB3.out) (by omega) (by omega) hcm (fun ad ha h0 => by have := HP.out.lt ad ha h0; omega)
    rw [hxl] at hbl
    refine hbl.mono ?_
    rintro e W4 ⟨rfl, hs, hk⟩
    obtain ⟨be, hbe⟩ : ∃ be, blitE w h 0 0 w h xs = be := ⟨_, rfl⟩
    rw [hbe]
    have HB4 := Lib.hid (HB3.out.trans (hk.below HS3.out.1.1.2.1 HB3.out.size))
    have HG4 := Lib.hid ((hk.block W.heap.size (blk_lt HG3.out) (by omega)).trans HG3.out)
    by_cases h0 : be = 0
    · subst h0
      have hok := blit_whole_ok (F := fun _ => 0) hd4 hbe
      have HS4 := Lib.hid (hs.ext hok.2)
      generalize pF xs = F0 at *
      clear hbl hs hk hbe hok
      go_wp2_with fail
      refine (At_c W.heap.size ga ra w h F0 x y _ HS4.out.1).mono ?_
      rintro e _ ⟨rfl, ⟨m1, rfl⟩⟩
      have q4 := HG4.out
      have q0 : W4.cell? ⟨W.heap.size, 0, none⟩ = some (.int .i64 rx) := by rw [World.cell?, q4]; rfl
      have q1 : W4.cell? ⟨W.heap.size, 1, none⟩ = some (.int .i64 ry) := by rw [World.cell?, q4]; rfl
      have q2 : W4.cell? ⟨W.heap.size, 2, none⟩ = some (.int .i64 rw) := by rw [World.cell?, q4]; rfl
      have q3 : W4.cell? ⟨W.heap.size, 3, none⟩ = some (.int .i64 rh) := by rw [World.cell?, q4]; rfl
      clear q4
      go_wp2_with fail
      refine (Fill_s W.heap.size ga ra w h F0 rx ry rw rh c _ (Scr.dr HS4.out m1)).mono ?_
      rintro e W5 ⟨rfl, hs, hk⟩
      obtain ⟨fe, hfe⟩ : ∃ fe, fillE w h rx ry rw rh c = fe := ⟨_, rfl⟩
      rw [hfe]
      have HB5 := Lib.hid ((pw_below_drewN HB4.out m1).trans (hk.below HS4.out.1.1.2.1 HB4.out.size))
      have HG5 := Lib.hid ((hk.block W.heap.size (blk_lt HG4.out) (by omega)).trans HG4.out)
      clear q0 q1 q2 q3
      by_cases hf0 : fe = 0
      · subst hf0
        obtain ⟨hin, hcc, hfg⟩ := fill_ok (F := F0) hfe
        rw [hfg] at hs
        have HS5 := Lib.hid hs
        have HIN := Lib.hid hin
        have HCC := Lib.hid hcc
        have hat := at_fill (x := x) (y := y) (c := c) (F := F0) hin
        obtain ⟨F1, hF1⟩ : ∃ F1, (fun i => if inR w rx ry rw rh i = true then c else F0 i) = F1 := ⟨_, rfl⟩
        have HF1 := Lib.hid hF1
        rw [hF1] at hat hs
        have HS5 := Lib.hid hs
        have hfe1 : fillE w h rx ry rw rh c = 0 := hfe
        have HFE := Lib.hid hfe1
        have hfg1 : fillG w h rx ry rw rh c F1 = F1 := by
          rw [(fill_ok (F := F1) hfe1).2.2, ← hF1]
          funext i
          by_cases hR : inR w rx ry rw rh i = true
          · simp [hR]
          · simp [hR]
        have HFG := Lib.hid hfg1
        have hmg : ∀ i, moveG w h rx ry rw rh rx ry rw rh F1 i = F1 i := fun i => by
          unfold moveG
          rw [if_pos ⟨hin, hin, rfl, rfl⟩, blit_part0 hd4 hin]
          split <;> rfl
        have HMG := Lib.hid hmg
        have hme : moveE w h rx ry rw rh rx ry rw rh = 0 := by unfold moveE; rw [if_pos hin, if_pos hin, if_pos ⟨rfl, rfl⟩]
        have HME := Lib.hid hme
        have hpe : partE w h rx ry rw rh = 0 := if_pos hin
        have HPE := Lib.hid hpe
        have hpl : ((partXs w h rx ry rw rh F1).length : Int) = rw * rh := by
          have hr := rect_le hd4 hin
          unfold partXs
          rw [if_pos hin, lst_length, Int.mul_comm rh rw]; omega
        have HPL := Lib.hid hpl
        have HAT := Lib.hid hat
        have hri := rin_f hd4 hin x y
        have HRI := Lib.hid hri
        obtain ⟨d, hd⟩ : ∃ d : Bool, decide (rx ≤ x ∧ x < rx + rw ∧ ry ≤ y ∧ y < ry + rh) = d := ⟨_, rfl⟩
        have HD := Lib.hid hd
        clear hs hk hfe hfg hin hcc hat hF1 hfe1 hfg1 hmg hme hpe hpl hri hd
        go_wp2_with fail
        refine (At_c W.heap.size ga ra w h F1 x y _ HS5.out.1).mono ?_
        rintro e _ ⟨rfl, ⟨m2, rfl⟩⟩
        have hv : atF w h F1 x y = if d = true then c else atF w h F0 x y := by
          rw [HAT.out, ← HD.out]
          by_cases hc : rx ≤ x ∧ x < rx + rw ∧ ry ≤ y ∧ y < ry + rh
          · rw [if_pos hc, if_pos (decide_eq_true hc)]
          · rw [if_neg hc, if_neg (by rw [decide_eq_true_iff]; exact hc)]
        have hri := HRI.out
        rw [HD.out] at hri
        have HRI2 := Lib.hid hri
        obtain ⟨v0, hv0⟩ : ∃ v0, atF w h F0 x y = v0 := ⟨_, rfl⟩
        rw [hv0] at hv ⊢
        have HV := Lib.hid hv
        have q5 := HG5.out
        have q0 : W5.cell? ⟨W.heap.size, 0, none⟩ = some (.int .i64 rx) := by rw [World.cell?, q5]; rfl
        have q1 : W5.cell? ⟨W.heap.size, 1, none⟩ = some (.int .i64 ry) := by rw [World.cell?, q5]; rfl
        have q2 : W5.cell? ⟨W.heap.size, 2, none⟩ = some (.int .i64 rw) := by rw [World.cell?, q5]; rfl
        have q3 : W5.cell? ⟨W.heap.size, 3, none⟩ = some (.int .i64 rh) := by rw [World.cell?, q5]; rfl
        clear q5 hv hri hv0
        cases d with
        | true =>
          have hv2 := HV.out
          rw [if_pos rfl] at hv2
          rw [hv2]
          clear hv2 HV
          go_wp2_with fail
          refine (X.miradorref14_In.calls rx ry rw rh x y true _ HRI2.out).mono ?_
          rintro e W6 ⟨rfl, hb⟩
          have HS6 := Lib.hid (Scr.below (Scr.dr HS5.out m2) hb)
          have HB6 := Lib.hid ((pw_below_drewN HB5.out m2).trans (Below.mono hb HB5.out.size))
          have HG6 := Lib.hid ((hb.block W.heap.size (blk_lt HG5.out)).trans HG5.out)
          have q5 := HG6.out
          have q0 : W6.cell? ⟨W.heap.size, 0, none⟩ = some (.int .i64 rx) := by rw [World.cell?, q5]; rfl
          have q1 : W6.cell? ⟨W.heap.size, 1, none⟩ = some (.int .i64 ry) := by rw [World.cell?, q5]; rfl
          have q2 : W6.cell? ⟨W.heap.size, 2, none⟩ = some (.int .i64 rw) := by rw [World.cell?, q5]; rfl
          have q3 : W6.cell? ⟨W.heap.size, 3, none⟩ = some (.int .i64 rh) := by rw [World.cell?, q5]; rfl
          clear q5 hb
          go_wp2_with fail
          refine (X.miradorref14_In.calls rx ry rw rh x y true _ HRI2.out).mono ?_
          rintro e W7 ⟨rfl, hb⟩
          have HS7 := Lib.hid (HS6.out.below hb)
          have HB7 := Lib.hid (HB6.out.trans (Below.mono hb HB6.out.size))
          have HG7 := Lib.hid ((hb.block W.heap.size (blk_lt HG6.out)).trans HG6.out)
          clear hb q0 q1 q2 q3
          go_wp2_with fail
          refine (Image_s W.heap.size ga ra w h F1 _ HS7.out).mono ?_
          rintro e W8 ⟨vm, rfl, hr, hb⟩
          obtain ⟨Am, cm, rfl, m1', m2', m3, m4⟩ := RI.full hr
          have hne : ∀ ad, Am = some ad → 0 < (lst (w * h).toNat F1).length → ad.block ≠ ra := fun ad ha _ => by
            have h1 := m4 ad ha
            have h2 := HS7.out.1.lt.2
            omega
          have HS8 := Lib.hid (HS7.out.below hb)
          have HB8 := Lib.hid (HB7.out.trans (Below.mono hb HB7.out.size))
          have HG8 := Lib.hid ((hb.block W.heap.size (blk_lt HG7.out)).trans HG7.out)
          have HM := Lib.hid m3
          have HNE := Lib.hid hne
          have hll : (lst (w * h).toNat F1).length ≤ 16777216 := by rw [lst_length]; omega
          clear hr hb m3 m4 hne
          obtain ⟨L, hL⟩ : ∃ L, lst (w * h).toNat F1 = L := ⟨_, rfl⟩
          rw [hL] at HM HNE hll m1' ⊢
          have HL := Lib.hid hL
          clear hL
          have hb9 := below_alloc (Below.refl W8.heap.size W8) (.cells #[.int .i64 w, .int .i64 h, .slice Am L.length cm] 33)
          have hx9 := heap_alloc_new W8 (.cells #[.int .i64 w, .int .i64 h, .slice Am L.length cm] 33)
          obtain ⟨W9, hW9⟩ : ∃ W9, W8.alloc (.cells #[.int .i64 w, .int .i64 h, .slice Am L.length cm] 33) = W9 := ⟨_, rfl⟩
          obtain ⟨gx, hgx2⟩ : ∃ gx, W8.heap.size = gx := ⟨_, rfl⟩
          have hgr : W.heap.size < gx := by have := blk_lt HG8.out; omega
          have hra2 : ra ≠ gx := by have := HS8.out.1.lt.2; omega
          have hra3 : W.heap.size ≠ ra := by omega
          have q5 := HG8.out
          have q0 : W8.cell? ⟨W.heap.size, 0, none⟩ = some (.int .i64 rx) := by rw [World.cell?, q5]; rfl
          have q1 : W8.cell? ⟨W.heap.size, 1, none⟩ = some (.int .i64 ry) := by rw [World.cell?, q5]; rfl
          have q2 : W8.cell? ⟨W.heap.size, 2, none⟩ = some (.int .i64 rw) := by rw [World.cell?, q5]; rfl
          have q3 : W8.cell? ⟨W.heap.size, 3, none⟩ = some (.int .i64 rh) := by rw [World.cell?, q5]; rfl
          have HW9 := Lib.hid hW9
          have HX9 := Lib.hid (show W9.heap[gx]? = some (.cells #[.int .i64 w, .int .i64 h, .slice Am L.length cm] 33 (0, 0)) from by rw [← hW9, ← hgx2]; exact hx9)
          have HS9 := Lib.hid (show Scr W.heap.size ga ra w h F1 W9 from by rw [← hW9]; exact HS8.out.below hb9)
          have HB9 := Lib.hid (show Below W.heap.size W W9 from by rw [← hW9]; exact HB8.out.trans (Below.mono hb9 HB8.out.size))
          have HG9 := Lib.hid (show W9.heap[W.heap.size]? = some (.cells #[.int .i64 rx, .int .i64 ry, .int .i64 rw, .int .i64 rh] 30 (0, 0)) from by rw [← hW9]; exact (hb9.block _ (blk_lt HG8.out)).trans HG8.out)
          have HM9 := Lib.hid (show CI W9 Am L from by rw [← hW9]; exact Kd.C_below HM.out hb9)
          have HGX := Lib.hid hgx2
          have hlt8 : W.heap.size < W8.heap.size := blk_lt HG8.out
          clear q5 hW9 hx9 hb9 hgx2
          go_wp2_with fail
          rw [HW9.out, HGX.out]
          refine (Fill_s W.heap.size ga ra w h F1 rx ry rw rh c _ HS9.out).mono ?_
          rintro e W10 ⟨rfl, hs, hk⟩
          rw [HFG.out] at hs
          have HS10 := Lib.hid hs
          have HB10 := Lib.hid (HB9.out.trans (hk.below HS9.out.1.1.2.1 HB9.out.size))
          have HG10 := Lib.hid ((hk.block W.heap.size (blk_lt HG9.out) hra3).trans HG9.out)
          have HX10 := Lib.hid ((hk.block gx (blk_lt HX9.out) (Ne.symm hra2)).trans HX9.out)
          have HM10 := Lib.hid (CI.kept HM9.out hk.kept HNE.out)
          clear hs hk q0 q1 q2 q3
          have r5 := HX10.out
          have r0 : W10.cell? ⟨gx, 0, none⟩ = some (.int .i64 w) := by rw [World.cell?, r5]; rfl
          have r1 : W10.cell? ⟨gx, 1, none⟩ = some (.int .i64 h) := by rw [World.cell?, r5]; rfl
          have r2 : W10.cell? ⟨gx, 2, none⟩ = some (.slice Am L.length cm) := by rw [World.cell?, r5]; rfl
          clear r5
          go_upto_region 20 with (fail)
          go_cut [22] (fun s22 wx => s22 = .bool true ∧ Hid (Scr W.heap.size ga ra w h F1 wx) ∧ Hid (wx.heap[W.heap.size]? = some (.cells #[.int .i64 rx, .int .i64 ry, .int .i64 rw, .int .i64 rh] 30 (0, 0))) ∧ Hid (wx.heap[gx]? = some (.cells #[.int .i64 w, .int .i64 h, .slice Am L.length cm] 33 (0, 0))) ∧ Hid (CI wx Am L) ∧ Hid (Below W.heap.size W wx))
          case first =>
            go_region_held3 (fun w' => w'.cell? ⟨gx, 0, none⟩ = some (.int .i64 w) ∧ w'.cell? ⟨gx, 1, none⟩ = some (.int .i64 h) ∧ w'.cell? ⟨gx, 2, none⟩ = some (.slice Am L.length cm)) (go_keep) (first
              | (go_at_call 12; refine (Image_s W.heap.size ga ra w h F1 _ (by exact HS10.out)).mono ?_; rintro e W11 ⟨v11, rfl, hr, hb⟩; obtain ⟨A11, c11, rfl, n1, n2, n3, n4⟩ := RI.full hr; rw [HL.out] at n1 n3 ⊢; have hx11 : W11.heap[gx]? = some (.cells #[.int .i64 w, .int .i64 h, .slice Am L.length cm] 33 (0, 0)) := (hb.block gx (blk_lt HX10.out)).trans HX10.out; have j0 : W11.cell? ⟨gx, 0, none⟩ = some (.int .i64 w) := (by rw [World.cell?, hx11]; rfl); have j1 : W11.cell? ⟨gx, 1, none⟩ = some (.int .i64 h) := (by rw [World.cell?, hx11]; rfl); have j2 : W11.cell? ⟨gx, 2, none⟩ = some (.slice Am L.length cm) := (by rw [World.cell?, hx11]; rfl); have HX11 := Lib.hid hx11; have HS11 := Lib.hid (show Scr W.heap.size ga ra w h F1 W11 from by first | exact HS10.out.below hb | exact (show Scr W.heap.size ga ra w h F1 W10.drew from HS10.out).below hb); have HB11 := Lib.hid (show Below W.heap.size W W11 from by first | exact HB10.out.trans (Below.mono hb HB10.out.size) | exact (Below.drew HB10.out).trans (Below.mono hb HB10.out.size)); have HG11 := Lib.hid (show W11.heap[W.heap.size]? = some (.cells #[.int .i64 rx, .int .i64 ry, .int .i64 rw, .int .i64 rh] 30 (0, 0)) from (hb.block _ (blk_lt HG10.out)).trans HG10.out); have HM11 := Lib.hid (show CI W11 Am L from by first | exact Kd.C_below HM10.out hb | exact Kd.C_below (show CI W10.drew Am L from HM10.out) hb); have HN3 := Lib.hid n3; clear hr hb n3 n4 hx11)
              | (go_at_call 15; refine (X.miradorref12_SameImage.calls K w h Am cm L w h A11 c11 L true _ (by exact HM11.out) m1' (by exact HN3.out) n1 (same_refl K hK w h _ hll)).mono ?_; rintro e W12 ⟨rfl, hb⟩; have hx12 : W12.heap[gx]? = some (.cells #[.int .i64 w, .int .i64 h, .slice Am L.length cm] 33 (0, 0)) := (hb.block gx (blk_lt HX11.out)).trans HX11.out; have j0 : W12.cell? ⟨gx, 0, none⟩ = some (.int .i64 w) := (by rw [World.cell?, hx12]; rfl); have j1 : W12.cell? ⟨gx, 1, none⟩ = some (.int .i64 h) := (by rw [World.cell?, hx12]; rfl); have j2 : W12.cell? ⟨gx, 2, none⟩ = some (.slice Am L.length cm) := (by rw [World.cell?, hx12]; rfl); have HX12 := Lib.hid hx12; have HS12 := Lib.hid (show Scr W.heap.size ga ra w h F1 W12 from HS11.out.below hb); have HB12 := Lib.hid (show Below W.heap.size W W12 from HB11.out.trans (Below.mono hb HB11.out.size)); have HG12 := Lib.hid (show W12.heap[W.heap.size]? = some (.cells #[.int .i64 rx, .int .i64 ry, .int .i64 rw, .int .i64 rh] 30 (0, 0)) from (hb.block _ (blk_lt HG11.out)).trans HG11.out); have HM12 := Lib.hid (show CI W12 Am L from Kd.C_below HM11.out hb); clear hb hx12))
            all_goals
              go_wp2_with fail
              go_meet
              exact ⟨rfl, HS12, HG12, HX12, HM12, HB12⟩
          case rest =>
            obtain ⟨rfl, HS13, HG13, HX13, HM13, HB13⟩ := hcut
            clear r0 r1 r2
            have q5 := HG13.out
            have q0 : wc.cell? ⟨W.heap.size, 0, none⟩ = some (.int .i64 rx) := by rw [World.cell?, q5]; rfl
            have q1 : wc.cell? ⟨W.heap.size, 1, none⟩ = some (.int .i64 ry) := by rw [World.cell?, q5]; rfl
            have q2 : wc.cell? ⟨W.heap.size, 2, none⟩ = some (.int .i64 rw) := by rw [World.cell?, q5]; rfl
            have q3 : wc.cell? ⟨W.heap.size, 3, none⟩ = some (.int .i64 rh) := by rw [World.cell?, q5]; rfl
            clear q5
            go_wp2_with fail
            refine (Part_s W.heap.size ga ra w h F1 rx ry rw rh _ HS13.out).mono ?_
            rintro e W14 ⟨vp, rfl, hr, hb⟩
            rw [HPE.out]
            obtain ⟨Ap, cp, rfl, p1, p2, p3, p4⟩ := RI.full hr
            obtain ⟨np, hnp⟩ : ∃ np, (partXs w h rx ry rw rh F1).length = np := ⟨_, rfl⟩
            have hnp2 := HPL.out
            rw [hnp] at hnp2 p1 ⊢
            have HS14 := Lib.hid (HS13.out.below hb)
            have HB14 := Lib.hid (HB13.out.trans (Below.mono hb HB13.out.size))
            have HG14 := Lib.hid ((hb.block W.heap.size (blk_lt HG13.out)).trans HG13.out)
            have HX14 := Lib.hid ((hb.block gx (blk_lt HX13.out)).trans HX13.out)
            have HM14 := Lib.hid (Kd.C_below HM13.out hb)
            have hrl := rect_le hd4 HIN.out
            have nb1 : ((np : Int) == rw * rh) = true := by simpa using hnp2
            have nb2 : IntKind.i64.wrap (rw * rh) = rw * rh := by rw [IntKind.wrap_i64]; omega
            have nb3 : 0 ≤ rw * rh := hrl.1
            clear q0 q1 q2 q3 hr hb p3 p4 hnp hnp2 hrl
            have q5 := HG14.out
            have q0 : W14.cell? ⟨W.heap.size, 0, none⟩ = some (.int .i64 rx) := by rw [World.cell?, q5]; rfl
            have q1 : W14.cell? ⟨W.heap.size, 1, none⟩ = some (.int .i64 ry) := by rw [World.cell?, q5]; rfl
            have q2 : W14.cell? ⟨W.heap.size, 2, none⟩ = some (.int .i64 rw) := by rw [World.cell?, q5]; rfl
            have q3 : W14.cell? ⟨W.heap.size, 3, none⟩ = some (.int .i64 rh) := by rw [World.cell?, q5]; rfl
            have r5 := HX14.out
            have r0 : W14.cell? ⟨gx, 0, none⟩ = some (.int .i64 w) := by rw [World.cell?, r5]; rfl
            have r1 : W14.cell? ⟨gx, 1, none⟩ = some (.int .i64 h) := by rw [World.cell?, r5]; rfl
            have r2 : W14.cell? ⟨gx, 2, none⟩ = some (.slice Am L.length cm) := by rw [World.cell?, r5]; rfl
            clear r5 q5
            go_upto_region 22 with (fail)
            go_cut [14] (fun s14 wx => s14 = .bool true ∧ Hid (Below W.heap.size W wx))
            case first =>
              go_region_held3 (fun w' => w'.cell? ⟨W.heap.size, 0, none⟩ = some (.int .i64 rx) ∧ w'.cell? ⟨W.heap.size, 1, none⟩ = some (.int .i64 ry) ∧ w'.cell? ⟨W.heap.size, 2, none⟩ = some (.int .i64 rw) ∧ w'.cell? ⟨W.heap.size, 3, none⟩ = some (.int .i64 rh) ∧ w'.cell? ⟨gx, 0, none⟩ = some (.int .i64 w) ∧ w'.cell? ⟨gx, 1, none⟩ = some (.int .i64 h) ∧ w'.cell? ⟨gx, 2, none⟩ = some (.slice Am L.length cm)) (go_keep) (first
                | (go_at_call 20; refine (Move_s W.heap.size ga ra w h F1 rx ry rw rh rx ry rw rh _ (by exact HS14.out)).mono ?_; rintro e W15 ⟨rfl, hs, hk⟩; rw [HME.out]; have hg' : W15.heap[W.heap.size]? = some (.cells #[.int .i64 rx, .int .i64 ry, .int .i64 rw, .int .i64 rh] 30 (0, 0)) := (hk.block W.heap.size (blk_lt HG14.out) hra3).trans HG14.out; have hx' : W15.heap[gx]? = some (.cells #[.int .i64 w, .int .i64 h, .slice Am L.length cm] 33 (0, 0)) := (hk.block gx (blk_lt HX14.out) (Ne.symm hra2)).trans HX14.out; have zq0 : W15.cell? ⟨W.heap.size, 0, none⟩ = some (.int .i64 rx) := (by rw [World.cell?, hg']; rfl); have zq1 : W15.cell? ⟨W.heap.size, 1, none⟩ = some (.int .i64 ry) := (by rw [World.cell?, hg']; rfl); have zq2 : W15.cell? ⟨W.heap.size, 2, none⟩ = some (.int .i64 rw) := (by rw [World.cell?, hg']; rfl); have zq3 : W15.cell? ⟨W.heap.size, 3, none⟩ = some (.int .i64 rh) := (by rw [World.cell?, hg']; rfl); have zr0 : W15.cell? ⟨gx, 0, none⟩ = some (.int .i64 w) := (by rw [World.cell?, hx']; rfl); have zr1 : W15.cell? ⟨gx, 1, none⟩ = some (.int .i64 h) := (by rw [World.cell?, hx']; rfl); have zr2 : W15.cell? ⟨gx, 2, none⟩ = some (.slice Am L.length cm) := (by rw [World.cell?, hx']; rfl); have HG15 := Lib.hid hg'; have HX15 := Lib.hid hx'; have HS15 := Lib.hid (show Scr W.heap.size ga ra w h F1 W15 from Scr.ext hs (fun i _ => HMG.out i)); have HB15 := Lib.hid (show Below W.heap.size W W15 from by first | exact HB14.out.trans (hk.below HS14.out.1.1.2.1 HB14.out.size) | exact (Below.drew HB14.out).trans (hk.below HS14.out.1.1.2.1 HB14.out.size)); have HM15 := Lib.hid (show CI W15 Am L from by first | exact CI.kept HM14.out hk.kept HNE.out | exact CI.kept (show CI W14.drew Am L from HM14.out) hk.kept HNE.out); clear hs hk hg' hx')
                | (go_at_call 12; refine (Image_s W.heap.size ga ra w h F1 _ (by exact HS15.out)).mono ?_; rintro e W16 ⟨v16, rfl, hr, hb⟩; obtain ⟨A16, c16, rfl, n1, n2, n3, n4⟩ := RI.full hr; rw [HL.out] at n1 n3 ⊢; have hg' : W16.heap[W.heap.size]? = some (.cells #[.int .i64 rx, .int .i64 ry, .int .i64 rw, .int .i64 rh] 30 (0, 0)) := (hb.block W.heap.size (blk_lt HG15.out)).trans HG15.out; have hx' : W16.heap[gx]? = some (.cells #[.int .i64 w, .int .i64 h, .slice Am L.length cm] 33 (0, 0)) := (hb.block gx (blk_lt HX15.out)).trans HX15.out; have zq0 : W16.cell? ⟨W.heap.size, 0, none⟩ = some (.int .i64 rx) := (by rw [World.cell?, hg']; rfl); have zq1 : W16.cell? ⟨W.heap.size, 1, none⟩ = some (.int .i64 ry) := (by rw [World.cell?, hg']; rfl); have zq2 : W16.cell? ⟨W.heap.size, 2, none⟩ = some (.int .i64 rw) := (by rw [World.cell?, hg']; rfl); have zq3 : W16.cell? ⟨W.heap.size, 3, none⟩ = some (.int .i64 rh) := (by rw [World.cell?, hg']; rfl); have zr0 : W16.cell? ⟨gx, 0, none⟩ = some (.int .i64 w) := (by rw [World.cell?, hx']; rfl); have zr1 : W16.cell? ⟨gx, 1, none⟩ = some (.int .i64 h) := (by rw [World.cell?, hx']; rfl); have zr2 : W16.cell? ⟨gx, 2, none⟩ = some (.slice Am L.length cm) := (by rw [World.cell?, hx']; rfl); have HG16 := Lib.hid hg'; have HX16 := Lib.hid hx'; have HB16 := Lib.hid (show Below W.heap.size W W16 from HB15.out.trans (Below.mono hb HB15.out.size)); have HM16 := Lib.hid (show CI W16 Am L from Kd.C_below HM15.out hb); have HN3 := Lib.hid n3; clear hr hb n3 n4 hg' hx')
                | (go_at_call 15; refine (X.miradorref12_SameImage.calls K w h Am cm L w h A16 c16 L true _ (by exact HM16.out) m1' (by exact HN3.out) n1 (same_refl K hK w h _ hll)).mono ?_; rintro e W17 ⟨rfl, hb⟩; have hg' : W17.heap[W.heap.size]? = some (.cells #[.int .i64 rx, .int .i64 ry, .int .i64 rw, .int .i64 rh] 30 (0, 0)) := (hb.block W.heap.size (blk_lt HG16.out)).trans HG16.out; have hx' : W17.heap[gx]? = some (.cells #[.int .i64 w, .int .i64 h, .slice Am L.length cm] 33 (0, 0)) := (hb.block gx (blk_lt HX16.out)).trans HX16.out; have zq0 : W17.cell? ⟨W.heap.size, 0, none⟩ = some (.int .i64 rx) := (by rw [World.cell?, hg']; rfl); have zq1 : W17.cell? ⟨W.heap.size, 1, none⟩ = some (.int .i64 ry) := (by rw [World.cell?, hg']; rfl); have zq2 : W17.cell? ⟨W.heap.size, 2, none⟩ = some (.int .i64 rw) := (by rw [World.cell?, hg']; rfl); have zq3 : W17.cell? ⟨W.heap.size, 3, none⟩ = some (.int .i64 rh) := (by rw [World.cell?, hg']; rfl); have zr0 : W17.cell? ⟨gx, 0, none⟩ = some (.int .i64 w) := (by rw [World.cell?, hx']; rfl); have zr1 : W17.cell? ⟨gx, 1, none⟩ = some (.int .i64 h) := (by rw [World.cell?, hx']; rfl); have zr2 : W17.cell? ⟨gx, 2, none⟩ = some (.slice Am L.length cm) := (by rw [World.cell?, hx']; rfl); have HB17 := Lib.hid (show Below W.heap.size W W17 from HB16.out.trans (Below.mono hb HB16.out.size)); clear hb hg' hx'))
              all_goals
                go_wp2_with fail
                go_meet
                exact ⟨rfl, HB17⟩
            case rest =>
              obtain ⟨rfl, HB20⟩ := hcut
              go_wp2_with fail
              go_ret
              exact ⟨rfl, HB20.out⟩
        | false =>
          have hv2 := HV.out
          rw [if_neg (by decide)] at hv2
          rw [hv2]
          clear hv2 HV
          go_wp2_with fail
          refine (X.miradorref14_In.calls rx ry rw rh x y false _ HRI2.out).mono ?_
          rintro e W6 ⟨rfl, hb⟩
          have HS6 := Lib.hid (Scr.below (Scr.dr HS5.out m2) hb)
          have HB6 := Lib.hid ((pw_below_drewN HB5.out m2).trans (Below.mono hb HB5.out.size))
          have HG6 := Lib.hid ((hb.block W.heap.size (blk_lt HG5.out)).trans HG5.out)
          have q5 := HG6.out
          have q0 : W6.cell? ⟨W.heap.size, 0, none⟩ = some (.int .i64 rx) := by rw [World.cell?, q5]; rfl
          have q1 : W6.cell? ⟨W.heap.size, 1, none⟩ = some (.int .i64 ry) := by rw [World.cell?, q5]; rfl
          have q2 : W6.cell? ⟨W.heap.size, 2, none⟩ = some (.int .i64 rw) := by rw [World.cell?, q5]; rfl
          have q3 : W6.cell? ⟨W.heap.size, 3, none⟩ = some (.int .i64 rh) := by rw [World.cell?, q5]; rfl
          clear q5 hb
          go_wp2_with fail
          refine (X.miradorref14_In.calls rx ry rw rh x y false _ HRI2.out).mono ?_
          rintro e W7 ⟨rfl, hb⟩
          have HS7 := Lib.hid (HS6.out.below hb)
          have HB7 := Lib.hid (HB6.out.trans (Below.mono hb HB6.out.size))
          have HG7 := Lib.hid ((hb.block W.heap.size (blk_lt HG6.out)).trans HG6.out)
          clear hb q0 q1 q2 q3
          go_wp2_with fail
          refine (Image_s W.heap.size ga ra w h F1 _ HS7.out).mono ?_
          rintro e W8 ⟨vm, rfl, hr, hb⟩
          obtain ⟨Am, cm, rfl, m1', m2', m3, m4⟩ := RI.full hr
          have hne : ∀ ad, Am = some ad → 0 < (lst (w * h).toNat F1).length → ad.block ≠ ra := fun ad ha _ => by
            have h1 := m4 ad ha
            have h2 := HS7.out.1.lt.2
            omega
          have HS8 := Lib.hid (HS7.out.below hb)
          have HB8 := Lib.hid (HB7.out.trans (Below.mono hb HB7.out.size))
          have HG8 := Lib.hid ((hb.block W.heap.size (blk_lt HG7.out)).trans HG7.out)
          have HM := Lib.hid m3
          have HNE := Lib.hid hne
          have hll : (lst (w * h).toNat F1).length ≤ 16777216 := by rw [lst_length]; omega
          clear hr hb m3 m4 hne
          obtain ⟨L, hL⟩ : ∃ L, lst (w * h).toNat F1 = L := ⟨_, rfl⟩
          rw [hL] at HM HNE hll m1' ⊢
          have HL := Lib.hid hL
          clear hL
          have hb9 := below_alloc (Below.refl W8.heap.size W8) (.cells #[.int .i64 w, .int .i64 h, .slice Am L.length cm] 33)
          have hx9 := heap_alloc_new W8 (.cells #[.int .i64 w, .int .i64 h, .slice Am L.length cm] 33)
          obtain ⟨W9, hW9⟩ : ∃ W9, W8.alloc (.cells #[.int .i64 w, .int .i64 h, .slice Am L.length cm] 33) = W9 := ⟨_, rfl⟩
          obtain ⟨gx, hgx2⟩ : ∃ gx, W8.heap.size = gx := ⟨_, rfl⟩
          have hgr : W.heap.size < gx := by have := blk_lt HG8.out; omega
          have hra2 : ra ≠ gx := by have := HS8.out.1.lt.2; omega
          have hra3 : W.heap.size ≠ ra := by omega
          have q5 := HG8.out
          have q0 : W8.cell? ⟨W.heap.size, 0, none⟩ = some (.int .i64 rx) := by rw [World.cell?, q5]; rfl
          have q1 : W8.cell? ⟨W.heap.size, 1, none⟩ = some (.int .i64 ry) := by rw [World.cell?, q5]; rfl
          have q2 : W8.cell? ⟨W.heap.size, 2, none⟩ = some (.int .i64 rw) := by rw [World.cell?, q5]; rfl
          have q3 : W8.cell? ⟨W.heap.size, 3, none⟩ = some (.int .i64 rh) := by rw [World.cell?, q5]; rfl
          have HW9 := Lib.hid hW9
          have HX9 := Lib.hid (show W9.heap[gx]? = some (.cells #[.int .i64 w, .int .i64 h, .slice Am L.length cm] 33 (0, 0)) from by rw [← hW9, ← hgx2]; exact hx9)
          have HS9 := Lib.hid (show Scr W.heap.size ga ra w h F1 W9 from by rw [← hW9]; exact HS8.out.below hb9)
          have HB9 := Lib.hid (show Below W.heap.size W W9 from by rw [← hW9]; exact HB8.out.trans (Below.mono hb9 HB8.out.size))
          have HG9 := Lib.hid (show W9.heap[W.heap.size]? = some (.cells #[.int .i64 rx, .int .i64 ry, .int .i64 rw, .int .i64 rh] 30 (0, 0)) from by rw [← hW9]; exact (hb9.block _ (blk_lt HG8.out)).trans HG8.out)
          have HM9 := Lib.hid (show CI W9 Am L from by rw [← hW9]; exact Kd.C_below HM.out hb9)
          have HGX := Lib.hid hgx2
          have hlt8 : W.heap.size < W8.heap.size := blk_lt HG8.out
          clear q5 hW9 hx9 hb9 hgx2
          go_wp2_with fail
          rw [HW9.out, HGX.out]
          refine (Fill_s W.heap.size ga ra w h F1 rx ry rw rh c _ HS9.out).mono ?_
          rintro e W10 ⟨rfl, hs, hk⟩
          rw [HFG.out] at hs
          have HS10 := Lib.hid hs
          have HB10 := Lib.hid (HB9.out.trans (hk.below HS9.out.1.1.2.1 HB9.out.size))
          have HG10 := Lib.hid ((hk.block W.heap.size (blk_lt HG9.out) hra3).trans HG9.out)
          have HX10 := Lib.hid ((hk.block gx (blk_lt HX9.out) (Ne.symm hra2)).trans HX9.out)
          have HM10 := Lib.hid (CI.kept HM9.out hk.kept HNE.out)
          clear hs hk q0 q1 q2 q3
          have r5 := HX10.out
          have r0 : W10.cell? ⟨gx, 0, none⟩ = some (.int .i64 w) := by rw [World.cell?, r5]; rfl
          have r1 : W10.cell? ⟨gx, 1, none⟩ = some (.int .i64 h) := by rw [World.cell?, r5]; rfl
          have r2 : W10.cell? ⟨gx, 2, none⟩ = some (.slice Am L.length cm) := by rw [World.cell?, r5]; rfl
          clear r5
          go_upto_region 20 with (fail)
          go_cut [22] (fun s22 wx => s22 = .bool true ∧ Hid (Scr W.heap.size ga ra w h F1 wx) ∧ Hid (wx.heap[W.heap.size]? = some (.cells #[.int .i64 rx, .int .i64 ry, .int .i64 rw, .int .i64 rh] 30 (0, 0))) ∧ Hid (wx.heap[gx]? = some (.cells #[.int .i64 w, .int .i64 h, .slice Am L.length cm] 33 (0, 0))) ∧ Hid (CI wx Am L) ∧ Hid (Below W.heap.size W wx))
          case first =>
            go_region_held3 (fun w' => w'.cell? ⟨gx, 0, none⟩ = some (.int .i64 w) ∧ w'.cell? ⟨gx, 1, none⟩ = some (.int .i64 h) ∧ w'.cell? ⟨gx, 2, none⟩ = some (.slice Am L.length cm)) (go_keep) (first
              | (go_at_call 12; refine (Image_s W.heap.size ga ra w h F1 _ (by exact HS10.out)).mono ?_; rintro e W11 ⟨v11, rfl, hr, hb⟩; obtain ⟨A11, c11, rfl, n1, n2, n3, n4⟩ := RI.full hr; rw [HL.out] at n1 n3 ⊢; have hx11 : W11.heap[gx]? = some (.cells #[.int .i64 w, .int .i64 h, .slice Am L.length cm] 33 (0, 0)) := (hb.block gx (blk_lt HX10.out)).trans HX10.out; have j0 : W11.cell? ⟨gx, 0, none⟩ = some (.int .i64 w) := (by rw [World.cell?, hx11]; rfl); have j1 : W11.cell? ⟨gx, 1, none⟩ = some (.int .i64 h) := (by rw [World.cell?, hx11]; rfl); have j2 : W11.cell? ⟨gx, 2, none⟩ = some (.slice Am L.length cm) := (by rw [World.cell?, hx11]; rfl); have HX11 := Lib.hid hx11; have HS11 := Lib.hid (show Scr W.heap.size ga ra w h F1 W11 from by first | exact HS10.out.below hb | exact (show Scr W.heap.size ga ra w h F1 W10.drew from HS10.out).below hb); have HB11 := Lib.hid (show Below W.heap.size W W11 from by first | exact HB10.out.trans (Below.mono hb HB10.out.size) | exact (Below.drew HB10.out).trans (Below.mono hb HB10.out.size)); have HG11 := Lib.hid (show W11.heap[W.heap.size]? = some (.cells #[.int .i64 rx, .int .i64 ry, .int .i64 rw, .int .i64 rh] 30 (0, 0)) from (hb.block _ (blk_lt HG10.out)).trans HG10.out); have HM11 := Lib.hid (show CI W11 Am L from by first | exact Kd.C_below HM10.out hb | exact Kd.C_below (show CI W10.drew Am L from HM10.out) hb); have HN3 := Lib.hid n3; clear hr hb n3 n4 hx11)
              | (go_at_call 15; refine (X.miradorref12_SameImage.calls K w h Am cm L w h A11 c11 L true _ (by exact HM11.out) m1' (by exact HN3.out) n1 (same_refl K hK w h _ hll)).mono ?_; rintro e W12 ⟨rfl, hb⟩; have hx12 : W12.heap[gx]? = some (.cells #[.int .i64 w, .int .i64 h, .slice Am L.length cm] 33 (0, 0)) := (hb.block gx (blk_lt HX11.out)).trans HX11.out; have j0 : W12.cell? ⟨gx, 0, none⟩ = some (.int .i64 w) := (by rw [World.cell?, hx12]; rfl); have j1 : W12.cell? ⟨gx, 1, none⟩ = some (.int .i64 h) := (by rw [World.cell?, hx12]; rfl); have j2 : W12.cell? ⟨gx, 2, none⟩ = some (.slice Am L.length cm) := (by rw [World.cell?, hx12]; rfl); have HX12 := Lib.hid hx12; have HS12 := Lib.hid (show Scr W.heap.size ga ra w h F1 W12 from HS11.out.below hb); have HB12 := Lib.hid (show Below W.heap.size W W12 from HB11.out.trans (Below.mono hb HB11.out.size)); have HG12 := Lib.hid (show W12.heap[W.heap.size]? = some (.cells #[.int .i64 rx, .int .i64 ry, .int .i64 rw, .int .i64 rh] 30 (0, 0)) from (hb.block _ (blk_lt HG11.out)).trans HG11.out); have HM12 := Lib.hid (show CI W12 Am L from Kd.C_below HM11.out hb); clear hb hx12))
            all_goals
              go_wp2_with fail
              go_meet
              exact ⟨rfl, HS12, HG12, HX12, HM12, HB12⟩
          case rest =>
            obtain ⟨rfl, HS13, HG13, HX13, HM13, HB13⟩ := hcut
            clear r0 r1 r2
            have q5 := HG13.out
            have q0 : wc.cell? ⟨W.heap.size, 0, none⟩ = some (.int .i64 rx) := by rw [World.cell?, q5]; rfl
            have q1 : wc.cell? ⟨W.heap.size, 1, none⟩ = some (.int .i64 ry) := by rw [World.cell?, q5]; rfl
            have q2 : wc.cell? ⟨W.heap.size, 2, none⟩ = some (.int .i64 rw) := by rw [World.cell?, q5]; rfl
            have q3 : wc.cell? ⟨W.heap.size, 3, none⟩ = some (.int .i64 rh) := by rw [World.cell?, q5]; rfl
            clear q5
            go_wp2_with fail
            refine (Part_s W.heap.size ga ra w h F1 rx ry rw rh _ HS13.out).mono ?_
            rintro e W14 ⟨vp, rfl, hr, hb⟩
            rw [HPE.out]
            obtain ⟨Ap, cp, rfl, p1, p2, p3, p4⟩ := RI.full hr
            obtain ⟨np, hnp⟩ : ∃ np, (partXs w h rx ry rw rh F1).length = np := ⟨_, rfl⟩
            have hnp2 := HPL.out
            rw [hnp] at hnp2 p1 ⊢
            have HS14 := Lib.hid (HS13.out.below hb)
            have HB14 := Lib.hid (HB13.out.trans (Below.mono hb HB13.out.size))
            have HG14 := Lib.hid ((hb.block W.heap.size (blk_lt HG13.out)).trans HG13.out)
            have HX14 := Lib.hid ((hb.block gx (blk_lt HX13.out)).trans HX13.out)
            have HM14 := Lib.hid (Kd.C_below HM13.out hb)
            have hrl := rect_le hd4 HIN.out
            have nb1 : ((np : Int) == rw * rh) = true := by simpa using hnp2
            have nb2 : IntKind.i64.wrap (rw * rh) = rw * rh := by rw [IntKind.wrap_i64]; omega
            have nb3 : 0 ≤ rw * rh := hrl.1
            clear q0 q1 q2 q3 hr hb p3 p4 hnp hnp2 hrl
            have q5 := HG14.out
            have q0 : W14.cell? ⟨W.heap.size, 0, none⟩ = some (.int .i64 rx) := by rw [World.cell?, q5]; rfl
            have q1 : W14.cell? ⟨W.heap.size, 1, none⟩ = some (.int .i64 ry) := by rw [World.cell?, q5]; rfl
            have q2 : W14.cell? ⟨W.heap.size, 2, none⟩ = some (.int .i64 rw) := by rw [World.cell?, q5]; rfl
            have q3 : W14.cell? ⟨W.heap.size, 3, none⟩ = some (.int .i64 rh) := by rw [World.cell?, q5]; rfl
            have r5 := HX14.out
            have r0 : W14.cell? ⟨gx, 0, none⟩ = some (.int .i64 w) := by rw [World.cell?, r5]; rfl
            have r1 : W14.cell? ⟨gx, 1, none⟩ = some (.int .i64 h) := by rw [World.cell?, r5]; rfl
            have r2 : W14.cell? ⟨gx, 2, none⟩ = some (.slice Am L.length cm) := by rw [World.cell?, r5]; rfl
            clear r5 q5
            go_upto_region 22 with (fail)
            go_cut [14] (fun s14 wx => s14 = .bool true ∧ Hid (Below W.heap.size W wx))
            case first =>
              go_region_held3 (fun w' => w'.cell? ⟨W.heap.size, 0, none⟩ = some (.int .i64 rx) ∧ w'.cell? ⟨W.heap.size, 1, none⟩ = some (.int .i64 ry) ∧ w'.cell? ⟨W.heap.size, 2, none⟩ = some (.int .i64 rw) ∧ w'.cell? ⟨W.heap.size, 3, none⟩ = some (.int .i64 rh) ∧ w'.cell? ⟨gx, 0, none⟩ = some (.int .i64 w) ∧ w'.cell? ⟨gx, 1, none⟩ = some (.int .i64 h) ∧ w'.cell? ⟨gx, 2, none⟩ = some (.slice Am L.length cm)) (go_keep) (first
                | (go_at_call 20; refine (Move_s W.heap.size ga ra w h F1 rx ry rw rh rx ry rw rh _ (by exact HS14.out)).mono ?_; rintro e W15 ⟨rfl, hs, hk⟩; rw [HME.out]; have hg' : W15.heap[W.heap.size]? = some (.cells #[.int .i64 rx, .int .i64 ry, .int .i64 rw, .int .i64 rh] 30 (0, 0)) := (hk.block W.heap.size (blk_lt HG14.out) hra3).trans HG14.out; have hx' : W15.heap[gx]? = some (.cells #[.int .i64 w, .int .i64 h, .slice Am L.length cm] 33 (0, 0)) := (hk.block gx (blk_lt HX14.out) (Ne.symm hra2)).trans HX14.out; have zq0 : W15.cell? ⟨W.heap.size, 0, none⟩ = some (.int .i64 rx) := (by rw [World.cell?, hg']; rfl); have zq1 : W15.cell? ⟨W.heap.size, 1, none⟩ = some (.int .i64 ry) := (by rw [World.cell?, hg']; rfl); have zq2 : W15.cell? ⟨W.heap.size, 2, none⟩ = some (.int .i64 rw) := (by rw [World.cell?, hg']; rfl); have zq3 : W15.cell? ⟨W.heap.size, 3, none⟩ = some (.int .i64 rh) := (by rw [World.cell?, hg']; rfl); have zr0 : W15.cell? ⟨gx, 0, none⟩ = some (.int .i64 w) := (by rw [World.cell?, hx']; rfl); have zr1 : W15.cell? ⟨gx, 1, none⟩ = some (.int .i64 h) := (by rw [World.cell?, hx']; rfl); have zr2 : W15.cell? ⟨gx, 2, none⟩ = some (.slice Am L.length cm) := (by rw [World.cell?, hx']; rfl); have HG15 := Lib.hid hg'; have HX15 := Lib.hid hx'; have HS15 := Lib.hid (show Scr W.heap.size ga ra w h F1 W15 from Scr.ext hs (fun i _ => HMG.out i)); have HB15 := Lib.hid (show Below W.heap.size W W15 from by first | exact HB14.out.trans (hk.below HS14.out.1.1.2.1 HB14.out.size) | exact (Below.drew HB14.out).trans (hk.below HS14.out.1.1.2.1 HB14.out.size)); have HM15 := Lib.hid (show CI W15 Am L from by first | exact CI.kept HM14.out hk.kept HNE.out | exact CI.kept (show CI W14.drew Am L from HM14.out) hk.kept HNE.out); clear hs hk hg' hx')
                | (go_at_call 12; refine (Image_s W.heap.size ga ra w h F1 _ (by exact HS15.out)).mono ?_; rintro e W16 ⟨v16, rfl, hr, hb⟩; obtain ⟨A16, c16, rfl, n1, n2, n3, n4⟩ := RI.full hr; rw [HL.out] at n1 n3 ⊢; have hg' : W16.heap[W.heap.size]? = some (.cells #[.int .i64 rx, .int .i64 ry, .int .i64 rw, .int .i64 rh] 30 (0, 0)) := (hb.block W.heap.size (blk_lt HG15.out)).trans HG15.out; have hx' : W16.heap[gx]? = some (.cells #[.int .i64 w, .int .i64 h, .slice Am L.length cm] 33 (0, 0)) := (hb.block gx (blk_lt HX15.out)).trans HX15.out; have zq0 : W16.cell? ⟨W.heap.size, 0, none⟩ = some (.int .i64 rx) := (by rw [World.cell?, hg']; rfl); have zq1 : W16.cell? ⟨W.heap.size, 1, none⟩ = some (.int .i64 ry) := (by rw [World.cell?, hg']; rfl); have zq2 : W16.cell? ⟨W.heap.size, 2, none⟩ = some (.int .i64 rw) := (by rw [World.cell?, hg']; rfl); have zq3 : W16.cell? ⟨W.heap.size, 3, none⟩ = some (.int .i64 rh) := (by rw [World.cell?, hg']; rfl); have zr0 : W16.cell? ⟨gx, 0, none⟩ = some (.int .i64 w) := (by rw [World.cell?, hx']; rfl); have zr1 : W16.cell? ⟨gx, 1, none⟩ = some (.int .i64 h) := (by rw [World.cell?, hx']; rfl); have zr2 : W16.cell? ⟨gx, 2, none⟩ = some (.slice Am L.length cm) := (by rw [World.cell?, hx']; rfl); have HG16 := Lib.hid hg'; have HX16 := Lib.hid hx'; have HB16 := Lib.hid (show Below W.heap.size W W16 from HB15.out.trans (Below.mono hb HB15.out.size)); have HM16 := Lib.hid (show CI W16 Am L from Kd.C_below HM15.out hb); have HN3 := Lib.hid n3; clear hr hb n3 n4 hg' hx')
                | (go_at_call 15; refine (X.miradorref12_SameImage.calls K w h Am cm L w h A16 c16 L true _ (by exact HM16.out) m1' (by exact HN3.out) n1 (same_refl K hK w h _ hll)).mono ?_; rintro e W17 ⟨rfl, hb⟩; have hg' : W17.heap[W.heap.size]? = some (.cells #[.int .i64 rx, .int .i64 ry, .int .i64 rw, .int .i64 rh] 30 (0, 0)) := (hb.block W.heap.size (blk_lt HG16.out)).trans HG16.out; have hx' : W17.heap[gx]? = some (.cells #[.int .i64 w, .int .i64 h, .slice Am L.length cm] 33 (0, 0)) := (hb.block gx (blk_lt HX16.out)).trans HX16.out; have zq0 : W17.cell? ⟨W.heap.size, 0, none⟩ = some (.int .i64 rx) := (by rw [World.cell?, hg']; rfl); have zq1 : W17.cell? ⟨W.heap.size, 1, none⟩ = some (.int .i64 ry) := (by rw [World.cell?, hg']; rfl); have zq2 : W17.cell? ⟨W.heap.size, 2, none⟩ = some (.int .i64 rw) := (by rw [World.cell?, hg']; rfl); have zq3 : W17.cell? ⟨W.heap.size, 3, none⟩ = some (.int .i64 rh) := (by rw [World.cell?, hg']; rfl); have zr0 : W17.cell? ⟨gx, 0, none⟩ = some (.int .i64 w) := (by rw [World.cell?, hx']; rfl); have zr1 : W17.cell? ⟨gx, 1, none⟩ = some (.int .i64 h) := (by rw [World.cell?, hx']; rfl); have zr2 : W17.cell? ⟨gx, 2, none⟩ = some (.slice Am L.length cm) := (by rw [World.cell?, hx']; rfl); have HB17 := Lib.hid (show Below W.heap.size W W17 from HB16.out.trans (Below.mono hb HB16.out.size)); clear hb hg' hx'))
              all_goals
                go_wp2_with fail
                go_meet
                exact ⟨rfl, HB17⟩
            case rest =>
              obtain ⟨rfl, HB20⟩ := hcut
              go_wp2_with fail
              go_ret
              exact ⟨rfl, HB20.out⟩
      · have hfg := fill_err (F := F0) (by rw [hfe]; exact hf0)
        rw [hfg] at hs
        have HS5 := Lib.hid hs
        have hb0 : (fe == 0) = false := by simpa using hf0
        have hb1 : (fe != 0) = true := by simpa using hf0
        clear hs hk hfe hfg hf0
        go_wp2_with fail
        refine (At_c W.heap.size ga ra w h F0 x y _ HS5.out.1).mono ?_
        rintro e _ ⟨rfl, ⟨m2, rfl⟩⟩
        go_wp2_with fail
        go_ret
        exact ⟨by first | rfl | simp, pw_below_drewN HB5.out _⟩
    · have hb0 : (be == 0) = false := by simpa using h0
      have hb1 : (be != 0) = true := by simpa using h0
      clear hbl hs hk hbe h0
      go_wp2_with fail
      go_ret
      exact ⟨rfl, HB4.out⟩
  · go_enter Try.func4, Try.ntmps4
    go_wp2_with fail
    refine (works_c _).mono ?_
    rintro e W1 ⟨rfl, hb⟩
    have HB := Lib.hid (HBX.out.trans (Below.mono hb HBX.out.size))
    clear hb
    go_wp2_with fail
    all_goals (go_ret; exact ⟨rfl, HB.out⟩)
end Go.Proofs.Ytjcibgopebpkiaa.H
