/- ScreenDoes: whatever is drawn, moved, resized and asked, in whatever order, each call answers, and each place is, just as the document says. No condition. -/
-- OPEN 2 Go.Proofs.Ytjcibgopebpkiaa.RC.open_acts ha hlen hcap hzs : hf1 hf2 hf3 hf4 hf5
import Derived.Test.YtjcibgopebpkiaaACS
import Derived.Deep.DeepCutAuto
import Derived.Deep.CutBlock
import Derived.Deep.RegionHeld3
namespace Go.Proofs.Ytjcibgopebpkiaa.H
open Go.RowKit Go.Proofs.YtjcibgopebpkiaaW.PrintWords Go.Proofs.YtjcibgopebpkiaaW.PrintLast Go.Proofs.YtjcibgopebpkiaaW.PrintMore Go.Proofs.Ytjcibgopebpkiaa.B Go.Proofs.Ytjcibgopebpkiaa.SCP Go.Proofs.Ytjcibgopebpkiaa.SC
set_option linter.unusedVariables false
set_option linter.unusedSimpArgs false
theorem Scr.dr' {B g rb : Nat} {w h : Int} {F : Nat → Int} {W : World} (hs : Scr B g rb w h F W) (q : Nat) : Scr B g rb w h F (W.drewN q) := ⟨hs.1.drewN q, hs.2⟩
set_option maxHeartbeats 8000000 in
set_option maxRecDepth 100000 in
theorem ScreenDoes_walk (w h : Int) (a : Option Addr) (len cap : Nat) (zs : List X.S52) (W : World) (hw : (Lit.int .i64 w).wf = true) (hh : (Lit.int .i64 h).wf = true) (hz : zs.length = len) (hlc : len ≤ cap) (hcm : cap ≤ maxLen) (hC : Kd.C X.k52 W a zs.length zs) (hwf : ∀ i, i < zs.length → (Lit.int .i64 (X.rd_T52 zs (i : Int)).f0).wf = true ∧ (Lit.int .i64 (X.rd_T52 zs (i : Int)).f3).wf = true ∧ ∃ ad A c, a = some ad ∧ W.cell? (ad.add (i * 11 + 10)) = some (.slice A (X.rd_T52 zs (i : Int)).f4.length c) ∧ c ≤ 9223372036854775807) :
    Calls Try.prog 6 #[.int .i64 w, .int .i64 h, .slice a len cap] W fun e W' => e = .returned (.bool true) ∧ Below W.heap.size W W' := by
  obtain ⟨w0, w1⟩ := wf64 hw
  obtain ⟨h0, h1⟩ := wf64 hh
  subst hz
  have hcm' : cap ≤ 9223372036854775807 := by unfold maxLen at hcm; omega
  obtain ⟨K, hKl⟩ : ∃ K : Nat, zs.length + 40000001 ≤ K := ⟨_, Nat.le_refl _⟩
  have hK : 40000000 ≤ K := by omega
  have hK1 : 40000001 ≤ K := by omega
  obtain ⟨ov, hov, hov2⟩ := over_f K w h zs (by omega) (by omega)
  have HOV := Lib.hid hov
  have HOV2 := Lib.hid hov2
  have HC := Lib.hid hC
  have HWF := Lib.hid hwf
  have hs1 := rside_f w
  have hs2 := rside_f h
  have HS1 := Lib.hid hs1
  have HS2 := Lib.hid hs2
  clear hw hh hC hwf hov hov2 hcm hs1 hs2 hKl
  by_cases hb : 1 ≤ w ∧ w ≤ 4096 ∧ 1 ≤ h ∧ h ≤ 4096
  · have HD := Lib.hid hb
    have hs1 := HS1.out
    have hs2 := HS2.out
    rw [decide_eq_true ⟨hb.1, hb.2.1⟩] at hs1
    rw [decide_eq_true ⟨hb.2.2.1, hb.2.2.2⟩] at hs2
    have HS1 := Lib.hid hs1
    have HS2 := Lib.hid hs2
    clear hs1 hs2 hb
    go_enter Try.func6, Try.ntmps6
    go_wp2_with fail
    refine (works_c _).mono ?_
    rintro e W1 ⟨rfl, hb⟩
    have HB := Lib.hid hb
    clear hb
    go_wp2_with fail
    refine (X.miradorlaw14_over.calls K w h a cap zs ov _ (Kd.C_below HC.out HB.out) hlc HOV.out).mono ?_
    rintro e _ ⟨rfl, ⟨m0, rfl⟩⟩
    have HB2 := Lib.hid (pw_below_drewN HB.out m0)
    have hsz1 := HB.out.size
    cases ov with
    | true =>
      go_wp2_with fail
      go_ret
      exact ⟨rfl, HB2.out⟩
    | false =>
      go_wp2_with fail
      refine (New_s W.heap.size w h _ HB2.out.size HD.out).mono ?_
      rintro e W3 ⟨g, rb, rfl, hs, hg3, hrb3, hb⟩
      have HS := Lib.hid hs
      have HB3 := Lib.hid (HB2.out.trans (Below.mono hb HB2.out.size))
      clear hs hb
      go_wp2_with fail
      refine (X.miradorref14_Side.calls w true _ HS1.out).mono ?_
      rintro e _ ⟨rfl, ⟨m1, rfl⟩⟩
      go_wp2_with fail
      refine (X.miradorref14_Side.calls h true _ HS2.out).mono ?_
      rintro e _ ⟨rfl, ⟨m2, rfl⟩⟩
      go_wp2_with fail
      refine (X.miradorref14_Black.calls K w h w h (lst (w * h).toNat (fun _ => 0)) _ (black_f K hK w h HD.out)).mono ?_
      rintro e W4 ⟨v, rfl, hr, hb⟩
      obtain ⟨A5, c5, rfl, v1, v2, v3, v4⟩ := RI.full hr
      have HS4 := Lib.hid (show Scr W.heap.size g rb w h (fun _ => 0) W4 from (Scr.dr' (Scr.dr' HS.out m1) m2).below (by simpa using hb))
      have HB4 := Lib.hid ((pw_below_drewN HB3.out (m1 + m2)).trans (Below.mono hb (by simpa using HB3.out.size)))
      have hr4 : RI W4 W.heap.size (fun q => q ≠ rb) (.slice A5 (lst (w * h).toNat (fun _ => 0)).length c5) (lst (w * h).toNat (fun _ => 0)) := Kd.R_mono (Kd.R_lower (Kd.R_bound hr) (by simpa using HB3.out.size)) (fun k hk => by have h1 := hk.2.1; have h2 := HS.out.1.lt.2; simp at h1; omega)
      have hgm := heap_alloc_new W4 (.cells #[.int .i64 w, .int .i64 h, .slice A5 (lst (w * h).toNat (fun _ => 0)).length c5] 33)
      have hb5 := below_alloc (Below.refl W4.heap.size W4) (.cells #[.int .i64 w, .int .i64 h, .slice A5 (lst (w * h).toNat (fun _ => 0)).length c5] 33)
      have hl4 := HS4.out.1.lt
      obtain ⟨W5, hW5⟩ : ∃ W5, W4.alloc (.cells #[.int .i64 w, .int .i64 h, .slice A5 (lst (w * h).toNat (fun _ => 0)).length c5] 33) = W5 := ⟨_, rfl⟩
      obtain ⟨gm, hgm2⟩ : ∃ gm, W4.heap.size = gm := ⟨_, rfl⟩
      have HS5 : Hid (St W g gm w h (fun _ => 0) rb w h (fun _ => 0) (.slice A5 (lst (w * h).toNat (fun _ => 0)).length c5) W5) := Lib.hid (by
        rw [← hW5, ← hgm2]
        exact ⟨HS4.out.below hb5, hgm, Kd.R_below hr4 hb5, HB4.out.trans (Below.mono hb5 HB4.out.size), by omega, by omega, HB4.out.size⟩)
      have HW5 := Lib.hid hW5
      have HGM := Lib.hid hgm2
      clear hr hb hr4 hgm hb5 hl4 hW5 hgm2 v1 v2 v3 v4
      go_wp2_with fail
      rw [HW5.out, HGM.out]
      go_loopw [12] (fun i wr => ∃ (k : Nat) (w' h' : Int) (F : Nat → Int) (rb' : Nat) (v : Value), k ≤ zs.length ∧ i = .int .i64 k ∧ Hid (St W g gm w' h' F rb' w' h' F v wr)) (fun i _ => zs.length - (intOf i).toNat)
      case atStart => exact ⟨0, w, h, _, rb, _, by omega, rfl, HS5⟩
      case round =>
        obtain ⟨k, w', h', F, rb', v, hk, rfl, HS⟩ := hrel
        by_cases hkl : k < zs.length
        · obtain ⟨ad, A10, c10, had, hcl⟩ := X.at_T52 HC.out (k : Int) (by omega) (by omega)
          subst had
          rw [Int.toNat_natCast] at hcl
          have hwk := HWF.out k hkl
          have hpl := HOV2.out (by first | rfl | trivial) k hkl
          obtain ⟨act, hact⟩ : ∃ act, X.rd_T52 zs (k : Int) = act := ⟨_, rfl⟩
          rw [hact] at hcl hwk hpl
          obtain ⟨a0, ⟨r0, r1, r2, r3⟩, ⟨t0, t1, t2, t3⟩, a9, ps⟩ := act
          obtain ⟨z0, z1, z2, z3, z4, z5, z6, z7, z8, z9, z10, hpc, hpi⟩ := hcl
          dsimp only at z0 z1 z2 z3 z4 z5 z6 z7 z8 z9 z10 hpc hpi hwk hpl
          obtain ⟨k0, k1⟩ := wf64 hwk.1
          obtain ⟨n0, n1⟩ := wf64 hwk.2.1
          obtain ⟨ad', A', c', e1, e2, e3⟩ := hwk.2.2
          obtain rfl := Option.some.inj e1
          have hc63 : c10 ≤ 9223372036854775807 := by
            have h10 := z10
            rw [← Go.Deep.add_add] at e2
            have h11 := e2.symm.trans h10
            injection h11 with h11
            injection h11 with _ _ h12
            omega
          clear e1 e2 e3
          have hpi0 : CI W A10 ps := hpi
          have HPI := Lib.hid (Kd.C_below hpi HS.out.below)
          have z0 := pw_cell_below HS.out.below z0
          have z1 := pw_cell_below HS.out.below z1
          have z2 := pw_cell_below HS.out.below z2
          have z3 := pw_cell_below HS.out.below z3
          have z4 := pw_cell_below HS.out.below z4
          have z5 := pw_cell_below HS.out.below z5
          have z6 := pw_cell_below HS.out.below z6
          have z7 := pw_cell_below HS.out.below z7
          have z8 := pw_cell_below HS.out.below z8
          have z9 := pw_cell_below HS.out.below z9
          have z10 := pw_cell_below HS.out.below z10
          clear hact hwk hpi
          obtain ⟨Am, cm, rfl, hv1, hv2, hv3, hv4⟩ := RI.full HS.out.row
          have hd4 := HS.out.scr.1.2.2.2
          have HP0 : Hid (CI W A10 ps) := Lib.hid hpi0
          have hal : ∀ ad, A10 = some ad → 0 < ps.length → ad.block ≠ rb' := fun ad ha h0 => by
            have h1 := CI.lt HP0.out ad ha h0
            have h2 := HS.out.scr.1.1.2.1
            omega
          have hgt0 := heap_alloc_new wr (.cells #[.int .i64 a0, .int .i64 r0, .int .i64 r1, .int .i64 r2, .int .i64 r3, .int .i64 t0, .int .i64 t1, .int .i64 t2, .int .i64 t3, .int .i64 a9, .slice A10 ps.length c10] 52)
          have hbt := below_alloc (Below.refl wr.heap.size wr) (.cells #[.int .i64 a0, .int .i64 r0, .int .i64 r1, .int .i64 r2, .int .i64 r3, .int .i64 t0, .int .i64 t1, .int .i64 t2, .int .i64 t3, .int .i64 a9, .slice A10 ps.length c10] 52)
          obtain ⟨Wt, hWt⟩ : ∃ Wt, wr.alloc (.cells #[.int .i64 a0, .int .i64 r0, .int .i64 r1, .int .i64 r2, .int .i64 r3, .int .i64 t0, .int .i64 t1, .int .i64 t2, .int .i64 t3, .int .i64 a9, .slice A10 ps.length c10] 52) = Wt := ⟨_, rfl⟩
          obtain ⟨gt, hgtv⟩ : ∃ gt, wr.heap.size = gt := ⟨_, rfl⟩
          have hlw := HS.out.lt
          rw [hWt] at hgt0 hbt
          have HST := Lib.hid (HS.out.below_ hbt)
          have HPT := Lib.hid (Kd.C_below HPI.out hbt)
          rw [hgtv] at hgt0
          have hgr : gt ≠ rb' := by omega
          have hgg : gt ≠ g := by omega
          have hgm2 : gt ≠ gm := by omega
          have HGT := Lib.hid hgt0
          have HWT := Lib.hid hWt
          have HGV := Lib.hid hgtv
          clear hv1 hv2 hv3 hv4 hgt0 hbt hWt hgtv hlw
          go_upto_block 2 with (fail)
          rw [HWT.out, HGV.out]
          clear z0 z1 z2 z3 z4 z5 z6 z7 z8 z9 z10
          have y0 : Wt.cell? ⟨gt, 0, none⟩ = some (.int .i64 a0) := by rw [World.cell?, HGT.out]; rfl
          have y1 : Wt.cell? ⟨gt, 1, none⟩ = some (.int .i64 r0) := by rw [World.cell?, HGT.out]; rfl
          have y2 : Wt.cell? ⟨gt, 2, none⟩ = some (.int .i64 r1) := by rw [World.cell?, HGT.out]; rfl
          have y3 : Wt.cell? ⟨gt, 3, none⟩ = some (.int .i64 r2) := by rw [World.cell?, HGT.out]; rfl
          have y4 : Wt.cell? ⟨gt, 4, none⟩ = some (.int .i64 r3) := by rw [World.cell?, HGT.out]; rfl
          have y5 : Wt.cell? ⟨gt, 5, none⟩ = some (.int .i64 t0) := by rw [World.cell?, HGT.out]; rfl
          have y6 : Wt.cell? ⟨gt, 6, none⟩ = some (.int .i64 t1) := by rw [World.cell?, HGT.out]; rfl
          have y7 : Wt.cell? ⟨gt, 7, none⟩ = some (.int .i64 t2) := by rw [World.cell?, HGT.out]; rfl
          have y8 : Wt.cell? ⟨gt, 8, none⟩ = some (.int .i64 t3) := by rw [World.cell?, HGT.out]; rfl
          have y9 : Wt.cell? ⟨gt, 9, none⟩ = some (.int .i64 a9) := by rw [World.cell?, HGT.out]; rfl
          have y10 : Wt.cell? ⟨gt, 10, none⟩ = some (.slice A10 ps.length c10) := by rw [World.cell?, HGT.out]; rfl
          obtain ⟨q, hq⟩ : ∃ q, Int.tmod a0 5 = q := ⟨_, rfl⟩
          rw [hq]
          clear hq
          go_cut [14, 15] (fun s14 s15 wx => ∃ (e : Int) (w2 h2 : Int) (F2 : Nat → Int) (rb2 : Nat) (v2 : Value), s14 = .int .i64 e ∧ s15 = .int .i64 e ∧ Hid (St W g gm w2 h2 F2 rb2 w2 h2 F2 v2 wx) ∧ Hid (wx.heap[gt]? = some (.cells #[.int .i64 a0, .int .i64 r0, .int .i64 r1, .int .i64 r2, .int .i64 r3, .int .i64 t0, .int .i64 t1, .int .i64 t2, .int .i64 t3, .int .i64 a9, .slice A10 ps.length c10] 52 (0, 0))))
          case first =>
            by_cases c0 : q = 0
            · subst c0
              as_aux_lemma =>
                go_wp2_with fail
                refine (Fill_s W.heap.size g rb' w' h' F r0 r1 r2 r3 a9 _ HST.out.scr).mono ?_
                rintro e wA ⟨rfl, hs, hk⟩
                have HSA := Lib.hid (St.drawn HST.out hs hk)
                have HGA := Lib.hid ((hk.block gt (blk_lt HGT.out) hgr).trans HGT.out)
                clear hs hk y0 y1 y2 y3 y4 y5 y6 y7 y8 y9 y10
                have y0 : wA.cell? ⟨gt, 0, none⟩ = some (.int .i64 a0) := by rw [World.cell?, HGA.out]; rfl
                have y1 : wA.cell? ⟨gt, 1, none⟩ = some (.int .i64 r0) := by rw [World.cell?, HGA.out]; rfl
                have y2 : wA.cell? ⟨gt, 2, none⟩ = some (.int .i64 r1) := by rw [World.cell?, HGA.out]; rfl
                have y3 : wA.cell? ⟨gt, 3, none⟩ = some (.int .i64 r2) := by rw [World.cell?, HGA.out]; rfl
                have y4 : wA.cell? ⟨gt, 4, none⟩ = some (.int .i64 r3) := by rw [World.cell?, HGA.out]; rfl
                have y5 : wA.cell? ⟨gt, 5, none⟩ = some (.int .i64 t0) := by rw [World.cell?, HGA.out]; rfl
                have y6 : wA.cell? ⟨gt, 6, none⟩ = some (.int .i64 t1) := by rw [World.cell?, HGA.out]; rfl
                have y7 : wA.cell? ⟨gt, 7, none⟩ = some (.int .i64 t2) := by rw [World.cell?, HGA.out]; rfl
                have y8 : wA.cell? ⟨gt, 8, none⟩ = some (.int .i64 t3) := by rw [World.cell?, HGA.out]; rfl
                have y9 : wA.cell? ⟨gt, 9, none⟩ = some (.int .i64 a9) := by rw [World.cell?, HGA.out]; rfl
                have y10 : wA.cell? ⟨gt, 10, none⟩ = some (.slice A10 ps.length c10) := by rw [World.cell?, HGA.out]; rfl
                obtain ⟨b0, b1, b2, f0, f1, f2⟩ := HSA.out.cells
                go_wp2_with fail
                refine (X.miradorref14_Fill.calls K w' h' (Pq W.heap.size g rb' gm gt) (.slice Am (lst (w' * h').toNat F).length cm) (lst (w' * h').toNat F) r0 r1 r2 r3 a9 w' h' (lst (w' * h').toNat (fillG w' h' r0 r1 r2 r3 a9 F)) (fillE w' h' r0 r1 r2 r3 a9) W _ HSA.out.below (HSA.out.free HGA.out (by decide)) (rfill_all K hK w' h' r0 r1 r2 r3 a9 F hd4)).mono ?_
                rintro e wB ⟨v2, rfl, hr, hb, hk⟩
                obtain ⟨A2, c2, rfl⟩ := Kd.R_slice hr
                have HSB := Lib.hid (St.laid (gt := gt) HSA.out hr hb hk)
                have hbx := (hk.2 gm HSA.out.lt.2.2 (fun h => h.2.2.1 rfl)).trans HSA.out.box
                have hgx := (hk.2 gt (blk_lt HGA.out) (fun h => h.2.2.2.1 rfl)).trans HGA.out
                have b0 : wB.cell? ⟨gm, 0, none⟩ = some (.int .i64 w') := by rw [World.cell?, hbx]; rfl
                have b1 : wB.cell? ⟨gm, 1, none⟩ = some (.int .i64 h') := by rw [World.cell?, hbx]; rfl
                have b2 : wB.cell? ⟨gm, 2, none⟩ = some (.slice Am (lst (w' * h').toNat F).length cm) := by rw [World.cell?, hbx]; rfl
                have f0 := blk_frozen hbx 0
                have f1 := blk_frozen hbx 1
                have f2 := blk_frozen hbx 2
                have HGB := Lib.hid hgx
                clear hr hb hk hbx hgx y0 y1 y2 y3 y4 y5 y6 y7 y8 y9 y10
                go_wp2_with fail
                go_meet
                exact ⟨_, _, _, _, _, _, rfl, rfl, HSB, Lib.hid (by rw [Below.heap_setCell _ _ _ _ hgm2, Below.heap_setCell _ _ _ _ hgm2, Below.heap_setCell _ _ _ _ hgm2]; exact HGB.out)⟩
            · have n0 : (q == 0) = false := by simpa using c0
              by_cases c1 : q = 1
              · subst c1
                as_aux_lemma =>
                  go_wp2_with fail
                  refine (Blit_s W.heap.size g rb' w' h' F r0 r1 r2 r3 A10 ps c10 _ HST.out.scr HPT.out (by omega) hpc hc63 hal).mono ?_
                  rintro e wA ⟨rfl, hs, hk⟩
                  have HSA := Lib.hid (St.drawn HST.out hs hk)
                  have HGA := Lib.hid ((hk.block gt (blk_lt HGT.out) hgr).trans HGT.out)
                  clear hs hk y0 y1 y2 y3 y4 y5 y6 y7 y8 y9 y10
                  have y0 : wA.cell? ⟨gt, 0, none⟩ = some (.int .i64 a0) := by rw [World.cell?, HGA.out]; rfl
                  have y1 : wA.cell? ⟨gt, 1, none⟩ = some (.int .i64 r0) := by rw [World.cell?, HGA.out]; rfl
                  have y2 : wA.cell? ⟨gt, 2, none⟩ = some (.int .i64 r1) := by rw [World.cell?, HGA.out]; rfl
                  have y3 : wA.cell? ⟨gt, 3, none⟩ = some (.int .i64 r2) := by rw [World.cell?, HGA.out]; rfl
                  have y4 : wA.cell? ⟨gt, 4, none⟩ = some (.int .i64 r3) := by rw [World.cell?, HGA.out]; rfl
                  have y5 : wA.cell? ⟨gt, 5, none⟩ = some (.int .i64 t0) := by rw [World.cell?, HGA.out]; rfl
                  have y6 : wA.cell? ⟨gt, 6, none⟩ = some (.int .i64 t1) := by rw [World.cell?, HGA.out]; rfl
                  have y7 : wA.cell? ⟨gt, 7, none⟩ = some (.int .i64 t2) := by rw [World.cell?, HGA.out]; rfl
                  have y8 : wA.cell? ⟨gt, 8, none⟩ = some (.int .i64 t3) := by rw [World.cell?, HGA.out]; rfl
                  have y9 : wA.cell? ⟨gt, 9, none⟩ = some (.int .i64 a9) := by rw [World.cell?, HGA.out]; rfl
                  have y10 : wA.cell? ⟨gt, 10, none⟩ = some (.slice A10 ps.length c10) := by rw [World.cell?, HGA.out]; rfl
                  obtain ⟨b0, b1, b2, f0, f1, f2⟩ := HSA.out.cells
                  go_wp2_with fail
                  refine (X.miradorref14_Blit.calls K w' h' (Pq W.heap.size g rb' gm gt) (.slice Am (lst (w' * h').toNat F).length cm) (lst (w' * h').toNat F) r0 r1 r2 r3 A10 c10 ps w' h' (lst (w' * h').toNat (blitG w' h' r0 r1 r2 r3 ps F)) (blitE w' h' r0 r1 r2 r3 ps) W _ HSA.out.below (HSA.out.free HGA.out (by decide)) (fun W_ hk => CI.kept (Kd.C_below HP0.out HSA.out.below) hk (fun ad ha h0 h => by have h1 := CI.lt HP0.out ad ha h0; have h2 := h.2.2.2.2; omega)) hpc (rblit_all K hK w' h' r0 r1 r2 r3 F ps hd4)).mono ?_
                  rintro e wB ⟨v2, rfl, hr, hb, hk⟩
                  obtain ⟨A2, c2, rfl⟩ := Kd.R_slice hr
                  have HSB := Lib.hid (St.laid (gt := gt) HSA.out hr hb hk)
                  have hbx := (hk.2 gm HSA.out.lt.2.2 (fun h => h.2.2.1 rfl)).trans HSA.out.box
                  have hgx := (hk.2 gt (blk_lt HGA.out) (fun h => h.2.2.2.1 rfl)).trans HGA.out
                  have b0 : wB.cell? ⟨gm, 0, none⟩ = some (.int .i64 w') := by rw [World.cell?, hbx]; rfl
                  have b1 : wB.cell? ⟨gm, 1, none⟩ = some (.int .i64 h') := by rw [World.cell?, hbx]; rfl
                  have b2 : wB.cell? ⟨gm, 2, none⟩ = some (.slice Am (lst (w' * h').toNat F).length cm) := by rw [World.cell?, hbx]; rfl
                  have f0 := blk_frozen hbx 0
                  have f1 := blk_frozen hbx 1
                  have f2 := blk_frozen hbx 2
                  have HGB := Lib.hid hgx
                  clear hr hb hk hbx hgx y0 y1 y2 y3 y4 y5 y6 y7 y8 y9 y10
                  go_wp2_with fail
                  go_meet
                  exact ⟨_, _, _, _, _, _, rfl, rfl, HSB, Lib.hid (by rw [Below.heap_setCell _ _ _ _ hgm2, Below.heap_setCell _ _ _ _ hgm2, Below.heap_setCell _ _ _ _ hgm2]; exact HGB.out)⟩
              · have n1 : (q == 1) = false := by simpa using c1
                by_cases c2 : q = 2
                · subst c2
                  as_aux_lemma =>
                    go_wp2_with fail
                    refine (Move_s W.heap.size g rb' w' h' F r0 r1 r2 r3 t0 t1 t2 t3 _ HST.out.scr).mono ?_
                    rintro e wA ⟨rfl, hs, hk⟩
                    have HSA := Lib.hid (St.drawn HST.out hs hk)
                    have HGA := Lib.hid ((hk.block gt (blk_lt HGT.out) hgr).trans HGT.out)
                    clear hs hk y0 y1 y2 y3 y4 y5 y6 y7 y8 y9 y10
                    have y0 : wA.cell? ⟨gt, 0, none⟩ = some (.int .i64 a0) := by rw [World.cell?, HGA.out]; rfl
                    have y1 : wA.cell? ⟨gt, 1, none⟩ = some (.int .i64 r0) := by rw [World.cell?, HGA.out]; rfl
                    have y2 : wA.cell? ⟨gt, 2, none⟩ = some (.int .i64 r1) := by rw [World.cell?, HGA.out]; rfl
                    have y3 : wA.cell? ⟨gt, 3, none⟩ = some (.int .i64 r2) := by rw [World.cell?, HGA.out]; rfl
                    have y4 : wA.cell? ⟨gt, 4, none⟩ = some (.int .i64 r3) := by rw [World.cell?, HGA.out]; rfl
                    have y5 : wA.cell? ⟨gt, 5, none⟩ = some (.int .i64 t0) := by rw [World.cell?, HGA.out]; rfl
                    have y6 : wA.cell? ⟨gt, 6, none⟩ = some (.int .i64 t1) := by rw [World.cell?, HGA.out]; rfl
                    have y7 : wA.cell? ⟨gt, 7, none⟩ = some (.int .i64 t2) := by rw [World.cell?, HGA.out]; rfl
                    have y8 : wA.cell? ⟨gt, 8, none⟩ = some (.int .i64 t3) := by rw [World.cell?, HGA.out]; rfl
                    have y9 : wA.cell? ⟨gt, 9, none⟩ = some (.int .i64 a9) := by rw [World.cell?, HGA.out]; rfl
                    have y10 : wA.cell? ⟨gt, 10, none⟩ = some (.slice A10 ps.length c10) := by rw [World.cell?, HGA.out]; rfl
                    obtain ⟨b0, b1, b2, f0, f1, f2⟩ := HSA.out.cells
                    go_wp2_with fail
                    refine (X.miradorref14_Move.calls K w' h' (Pq W.heap.size g rb' gm gt) (.slice Am (lst (w' * h').toNat F).length cm) (lst (w' * h').toNat F) r0 r1 r2 r3 t0 t1 t2 t3 w' h' (lst (w' * h').toNat (moveG w' h' r0 r1 r2 r3 t0 t1 t2 t3 F)) (moveE w' h' r0 r1 r2 r3 t0 t1 t2 t3) W _ HSA.out.below (HSA.out.free HGA.out (by decide)) (rmove_all K hK1 w' h' r0 r1 r2 r3 t0 t1 t2 t3 F hd4 HST.out.scr.2)).mono ?_
                    rintro e wB ⟨v2, rfl, hr, hb, hk⟩
                    obtain ⟨A2, c2, rfl⟩ := Kd.R_slice hr
                    have HSB := Lib.hid (St.laid (gt := gt) HSA.out hr hb hk)
                    have hbx := (hk.2 gm HSA.out.lt.2.2 (fun h => h.2.2.1 rfl)).trans HSA.out.box
                    have hgx := (hk.2 gt (blk_lt HGA.out) (fun h => h.2.2.2.1 rfl)).trans HGA.out
                    have b0 : wB.cell? ⟨gm, 0, none⟩ = some (.int .i64 w') := by rw [World.cell?, hbx]; rfl
                    have b1 : wB.cell? ⟨gm, 1, none⟩ = some (.int .i64 h') := by rw [World.cell?, hbx]; rfl
                    have b2 : wB.cell? ⟨gm, 2, none⟩ = some (.slice Am (lst (w' * h').toNat F).length cm) := by rw [World.cell?, hbx]; rfl
                    have f0 := blk_frozen hbx 0
                    have f1 := blk_frozen hbx 1
                    have f2 := blk_frozen hbx 2
                    have HGB := Lib.hid hgx
                    clear hr hb hk hbx hgx y0 y1 y2 y3 y4 y5 y6 y7 y8 y9 y10
                    go_wp2_with fail
                    go_meet
                    exact ⟨_, _, _, _, _, _, rfl, rfl, HSB, Lib.hid (by rw [Below.heap_setCell _ _ _ _ hgm2, Below.heap_setCell _ _ _ _ hgm2, Below.heap_setCell _ _ _ _ hgm2]; exact HGB.out)⟩
                · have n2 : (q == 2) = false := by simpa using c2
                  by_cases c3 : q = 3
                  · subst c3
                    by_cases hb2 : 1 ≤ r2 ∧ r2 ≤ 4096 ∧ 1 ≤ r3 ∧ r3 ≤ 4096
                    · skip
                      as_aux_lemma =>
                        go_wp2_with fail
                        refine (Resize_s W.heap.size g rb' w' h' F r2 r3 _ HST.out.scr HST.out.below.size hb2).mono ?_
                        rintro e wA ⟨rfl, rb2, hrb2, hs, hk⟩
                        have HSA := Lib.hid (St.resized HST.out hs hrb2 hk)
                        have HGA := Lib.hid ((hk.block gt (blk_lt HGT.out) hgg).trans HGT.out)
                        clear hs hk y0 y1 y2 y3 y4 y5 y6 y7 y8 y9 y10
                        have y0 : wA.cell? ⟨gt, 0, none⟩ = some (.int .i64 a0) := by rw [World.cell?, HGA.out]; rfl
                        have y1 : wA.cell? ⟨gt, 1, none⟩ = some (.int .i64 r0) := by rw [World.cell?, HGA.out]; rfl
                        have y2 : wA.cell? ⟨gt, 2, none⟩ = some (.int .i64 r1) := by rw [World.cell?, HGA.out]; rfl
                        have y3 : wA.cell? ⟨gt, 3, none⟩ = some (.int .i64 r2) := by rw [World.cell?, HGA.out]; rfl
                        have y4 : wA.cell? ⟨gt, 4, none⟩ = some (.int .i64 r3) := by rw [World.cell?, HGA.out]; rfl
                        have y5 : wA.cell? ⟨gt, 5, none⟩ = some (.int .i64 t0) := by rw [World.cell?, HGA.out]; rfl
                        have y6 : wA.cell? ⟨gt, 6, none⟩ = some (.int .i64 t1) := by rw [World.cell?, HGA.out]; rfl
                        have y7 : wA.cell? ⟨gt, 7, none⟩ = some (.int .i64 t2) := by rw [World.cell?, HGA.out]; rfl
                        have y8 : wA.cell? ⟨gt, 8, none⟩ = some (.int .i64 t3) := by rw [World.cell?, HGA.out]; rfl
                        have y9 : wA.cell? ⟨gt, 9, none⟩ = some (.int .i64 a9) := by rw [World.cell?, HGA.out]; rfl
                        have y10 : wA.cell? ⟨gt, 10, none⟩ = some (.slice A10 ps.length c10) := by rw [World.cell?, HGA.out]; rfl
                        obtain ⟨b0, b1, b2, f0, f1, f2⟩ := HSA.out.cells
                        go_wp2_with fail
                        refine (X.miradorref14_Resize.calls K w' h' (Pq W.heap.size g rb2 gm gt) (.slice Am (lst (w' * h').toNat F).length cm) (lst (w' * h').toNat F) r2 r3 r2 r3 (lst (r2 * r3).toNat (resF w' h' F r2)) 0 W _ HSA.out.below (HSA.out.free HGA.out (by decide)) (rresize_f K hK1 w' h' r2 r3 F hd4 hb2)).mono ?_
                        rintro e wB ⟨v2, rfl, hr, hb, hk⟩
                        obtain ⟨A2, c2, rfl⟩ := Kd.R_slice hr
                        have HSB := Lib.hid (St.laid (gt := gt) HSA.out hr hb hk)
                        have hbx := (hk.2 gm HSA.out.lt.2.2 (fun h => h.2.2.1 rfl)).trans HSA.out.box
                        have hgx := (hk.2 gt (blk_lt HGA.out) (fun h => h.2.2.2.1 rfl)).trans HGA.out
                        have b0 : wB.cell? ⟨gm, 0, none⟩ = some (.int .i64 w') := by rw [World.cell?, hbx]; rfl
                        have b1 : wB.cell? ⟨gm, 1, none⟩ = some (.int .i64 h') := by rw [World.cell?, hbx]; rfl
                        have b2 : wB.cell? ⟨gm, 2, none⟩ = some (.slice Am (lst (w' * h').toNat F).length cm) := by rw [World.cell?, hbx]; rfl
                        have f0 := blk_frozen hbx 0
                        have f1 := blk_frozen hbx 1
                        have f2 := blk_frozen hbx 2
                        have HGB := Lib.hid hgx
                        clear hr hb hk hbx hgx y0 y1 y2 y3 y4 y5 y6 y7 y8 y9 y10
                        go_wp2_with fail
                        go_meet
                        exact ⟨_, _, _, _, _, _, rfl, rfl, HSB, Lib.hid (by rw [Below.heap_setCell _ _ _ _ hgm2, Below.heap_setCell _ _ _ _ hgm2, Below.heap_setCell _ _ _ _ hgm2]; exact HGB.out)⟩
                    · skip
                      as_aux_lemma =>
                        go_wp2_with fail
                        refine (Resize_bad W.heap.size g rb' w' h' F r2 r3 _ HST.out.scr.1 hb2).mono ?_
                        rintro e wA ⟨rfl, hb⟩
                        have HSA := Lib.hid (HST.out.below_ hb)
                        have HGA := Lib.hid ((hb.block gt (blk_lt HGT.out)).trans HGT.out)
                        clear hb y0 y1 y2 y3 y4 y5 y6 y7 y8 y9 y10
                        have y0 : wA.cell? ⟨gt, 0, none⟩ = some (.int .i64 a0) := by rw [World.cell?, HGA.out]; rfl
                        have y1 : wA.cell? ⟨gt, 1, none⟩ = some (.int .i64 r0) := by rw [World.cell?, HGA.out]; rfl
                        have y2 : wA.cell? ⟨gt, 2, none⟩ = some (.int .i64 r1) := by rw [World.cell?, HGA.out]; rfl
                        have y3 : wA.cell? ⟨gt, 3, none⟩ = some (.int .i64 r2) := by rw [World.cell?, HGA.out]; rfl
                        have y4 : wA.cell? ⟨gt, 4, none⟩ = some (.int .i64 r3) := by rw [World.cell?, HGA.out]; rfl
                        have y5 : wA.cell? ⟨gt, 5, none⟩ = some (.int .i64 t0) := by rw [World.cell?, HGA.out]; rfl
                        have y6 : wA.cell? ⟨gt, 6, none⟩ = some (.int .i64 t1) := by rw [World.cell?, HGA.out]; rfl
                        have y7 : wA.cell? ⟨gt, 7, none⟩ = some (.int .i64 t2) := by rw [World.cell?, HGA.out]; rfl
                        have y8 : wA.cell? ⟨gt, 8, none⟩ = some (.int .i64 t3) := by rw [World.cell?, HGA.out]; rfl
                        have y9 : wA.cell? ⟨gt, 9, none⟩ = some (.int .i64 a9) := by rw [World.cell?, HGA.out]; rfl
                        have y10 : wA.cell? ⟨gt, 10, none⟩ = some (.slice A10 ps.length c10) := by rw [World.cell?, HGA.out]; rfl
                        obtain ⟨b0, b1, b2, f0, f1, f2⟩ := HSA.out.cells
                        go_wp2_with fail
                        refine (X.miradorref14_Resize.calls K w' h' (Pq W.heap.size g rb' gm gt) (.slice Am (lst (w' * h').toNat F).length cm) (lst (w' * h').toNat F) r2 r3 w' h' (lst (w' * h').toNat F) 1 W _ HSA.out.below (HSA.out.free HGA.out (by decide)) (rresize_bad K hK1 w' h' r2 r3 (lst (w' * h').toNat F) hb2)).mono ?_
                        rintro e wB ⟨v2, rfl, hr, hb, hk⟩
                        obtain ⟨A2, c2, rfl⟩ := Kd.R_slice hr
                        have HSB := Lib.hid (St.laid (gt := gt) HSA.out hr hb hk)
                        have hbx := (hk.2 gm HSA.out.lt.2.2 (fun h => h.2.2.1 rfl)).trans HSA.out.box
                        have hgx := (hk.2 gt (blk_lt HGA.out) (fun h => h.2.2.2.1 rfl)).trans HGA.out
                        have b0 : wB.cell? ⟨gm, 0, none⟩ = some (.int .i64 w') := by rw [World.cell?, hbx]; rfl
                        have b1 : wB.cell? ⟨gm, 1, none⟩ = some (.int .i64 h') := by rw [World.cell?, hbx]; rfl
                        have b2 : wB.cell? ⟨gm, 2, none⟩ = some (.slice Am (lst (w' * h').toNat F).length cm) := by rw [World.cell?, hbx]; rfl
                        have f0 := blk_frozen hbx 0
                        have f1 := blk_frozen hbx 1
                        have f2 := blk_frozen hbx 2
                        have HGB := Lib.hid hgx
                        clear hr hb hk hbx hgx y0 y1 y2 y3 y4 y5 y6 y7 y8 y9 y10
                        go_wp2_with fail
                        go_meet
                        exact ⟨_, _, _, _, _, _, rfl, rfl, HSB, Lib.hid (by rw [Below.heap_setCell _ _ _ _ hgm2, Below.heap_setCell _ _ _ _ hgm2, Below.heap_setCell _ _ _ _ hgm2]; exact HGB.out)⟩
                  · have n3 : (q == 3) = false := by simpa using c3
                    by_cases c4 : q = 4
                    · subst c4
                      as_aux_lemma =>
                        go_wp2_with fail
                        refine (Part_s W.heap.size g rb' w' h' F r0 r1 r2 r3 _ HST.out.scr).mono ?_
                        rintro e wA ⟨vp, rfl, hr, hb⟩
                        obtain ⟨Ap, cp, rfl, p1, p2, p3, p4⟩ := RI.full hr
                        have HSA := Lib.hid (HST.out.below_ hb)
                        have HGA := Lib.hid ((hb.block gt (blk_lt HGT.out)).trans HGT.out)
                        have HP3 := Lib.hid p3
                        clear hr hb p3 p4 y0 y1 y2 y3 y4 y5 y6 y7 y8 y9 y10
                        have y0 : wA.cell? ⟨gt, 0, none⟩ = some (.int .i64 a0) := by rw [World.cell?, HGA.out]; rfl
                        have y1 : wA.cell? ⟨gt, 1, none⟩ = some (.int .i64 r0) := by rw [World.cell?, HGA.out]; rfl
                        have y2 : wA.cell? ⟨gt, 2, none⟩ = some (.int .i64 r1) := by rw [World.cell?, HGA.out]; rfl
                        have y3 : wA.cell? ⟨gt, 3, none⟩ = some (.int .i64 r2) := by rw [World.cell?, HGA.out]; rfl
                        have y4 : wA.cell? ⟨gt, 4, none⟩ = some (.int .i64 r3) := by rw [World.cell?, HGA.out]; rfl
                        have y5 : wA.cell? ⟨gt, 5, none⟩ = some (.int .i64 t0) := by rw [World.cell?, HGA.out]; rfl
                        have y6 : wA.cell? ⟨gt, 6, none⟩ = some (.int .i64 t1) := by rw [World.cell?, HGA.out]; rfl
                        have y7 : wA.cell? ⟨gt, 7, none⟩ = some (.int .i64 t2) := by rw [World.cell?, HGA.out]; rfl
                        have y8 : wA.cell? ⟨gt, 8, none⟩ = some (.int .i64 t3) := by rw [World.cell?, HGA.out]; rfl
                        have y9 : wA.cell? ⟨gt, 9, none⟩ = some (.int .i64 a9) := by rw [World.cell?, HGA.out]; rfl
                        have y10 : wA.cell? ⟨gt, 10, none⟩ = some (.slice A10 ps.length c10) := by rw [World.cell?, HGA.out]; rfl
                        obtain ⟨b0, b1, b2, f0, f1, f2⟩ := HSA.out.cells
                        obtain ⟨Am', cm', e, m1', m2', m3', m4'⟩ := RI.full HSA.out.row
                        injection e with e1 e2 e3
                        subst e1; subst e3
                        have HM3 := Lib.hid m3'
                        clear m3' m4' e2
                        go_wp2_with fail
                        refine (X.miradorref14_Part.calls K w' h' Am cm (lst (w' * h').toNat F) r0 r1 r2 r3 (partXs w' h' r0 r1 r2 r3 F) (partE w' h' r0 r1 r2 r3) _ HM3.out m1' (rpart_all K hK w' h' r0 r1 r2 r3 F hd4)).mono ?_
                        rintro e wB ⟨vq, rfl, hr, hb⟩
                        obtain ⟨Aq, cq, rfl, q1, q2, q3, q4⟩ := RI.full hr
                        have HSB := Lib.hid (HSA.out.below_ hb)
                        have HGB := Lib.hid ((hb.block gt (blk_lt HGA.out)).trans HGA.out)
                        have HP4 := Lib.hid (Kd.C_below HP3.out hb)
                        have HQ3 := Lib.hid q3
                        clear hr hb q3 q4 b0 b1 b2 f0 f1 f2 y0 y1 y2 y3 y4 y5 y6 y7 y8 y9 y10
                        go_wp2_with fail
                        refine (X.miradorref12_Row.calls K Ap cp (partXs w' h' r0 r1 r2 r3 F) Aq cq (partXs w' h' r0 r1 r2 r3 F) true _ HP4.out p1 HQ3.out q1 (row_refl K hK _ (partXs_le hd4))).mono ?_
                        rintro e _ ⟨rfl, ⟨mr, rfl⟩⟩
                        obtain ⟨pe, hpe⟩ : ∃ pe, partE w' h' r0 r1 r2 r3 = pe := ⟨_, rfl⟩
                        rw [hpe]
                        have HPE := Lib.hid hpe
                        clear hpe
                        have pb1 : (pe == pe) = true := by simp
                        have pb2 : (pe != pe) = false := by simp
                        go_wp2_with fail
                        go_meet
                        exact ⟨_, _, _, _, _, _, rfl, rfl, Lib.hid (HSB.out.dr mr), HGB⟩
                    · have n4 : (q == 4) = false := by simpa using c4
                      clear c0 c1 c2 c3 c4
                      go_wp2_with fail
                      go_meet
                      exact ⟨_, _, _, _, _, _, rfl, rfl, HST, HGT⟩
          case rest =>
            obtain ⟨e, w2, h2, F2, rb2, v2, rfl, rfl, HS20, HG20⟩ := hcut
            obtain ⟨An, cn, rfl, m1', m2', m3', m4'⟩ := RI.full HS20.out.row
            have hd5 := HS20.out.scr.1.2.2.2
            have ha5 := area_le hd5.1 hd5.2.1 hd5.2.2.1 hd5.2.2.2
            have hll : (lst (w2 * h2).toNat F2).length ≤ 16777216 := by rw [lst_length]; omega
            obtain ⟨L, hL⟩ : ∃ L, lst (w2 * h2).toNat F2 = L := ⟨_, rfl⟩
            rw [hL] at m1' m3' hll HS20
            have HL := Lib.hid hL
            have HM20 := Lib.hid m3'
            clear hL m3' m4' y0 y1 y2 y3 y4 y5 y6 y7 y8 y9 y10
            go_wp2_with fail
            refine (Size_c W.heap.size g rb2 w2 h2 F2 _ HS20.out.scr.1).mono ?_
            rintro e _ ⟨rfl, ⟨ms, rfl⟩⟩
            have hb21 := pw_below_drewN (Below.refl wc.heap.size wc) ms
            obtain ⟨W21, hW21⟩ : ∃ W21, wc.drewN ms = W21 := ⟨_, rfl⟩
            rw [hW21] at hb21 ⊢
            have HS21 := Lib.hid (HS20.out.below_ hb21)
            have HG21 := Lib.hid ((hb21.block gt (blk_lt HG20.out)).trans HG20.out)
            have HM21 := Lib.hid (Kd.C_below HM20.out hb21)
            clear hb21 hW21
            obtain ⟨b0, b1, b2, f0, f1, f2⟩ := HS21.out.cells
            clear f0 f1 f2
            go_upto_region 39 with (fail)
            go_cut [23] (fun s23 wx => s23 = .bool true ∧ Hid (St W g gm w2 h2 F2 rb2 w2 h2 F2 (.slice An L.length cn) wx) ∧ Hid (wx.heap[gt]? = some (.cells #[.int .i64 a0, .int .i64 r0, .int .i64 r1, .int .i64 r2, .int .i64 r3, .int .i64 t0, .int .i64 t1, .int .i64 t2, .int .i64 t3, .int .i64 a9, .slice A10 ps.length c10] 52 (0, 0))) ∧ Hid (CI wx An L))
            case first =>
              as_aux_lemma =>
                go_region_held3 (fun w' => w'.cell? ⟨gm, 0, none⟩ = some (.int .i64 w2) ∧ w'.cell? ⟨gm, 1, none⟩ = some (.int .i64 h2) ∧ w'.cell? ⟨gm, 2, none⟩ = some (.slice An L.length cn)) (go_keep) (first
                  | (go_at_call 12; refine (Image_s W.heap.size g rb2 w2 h2 F2 _ (by exact HS21.out.scr)).mono ?_; rintro e W11 ⟨v11, rfl, hr, hb⟩; obtain ⟨A11, c11, rfl, j1, j2, j3, j4⟩ := RI.full hr; rw [HL.out] at j1 j3 ⊢; have HS31 := Lib.hid (show St W g gm w2 h2 F2 rb2 w2 h2 F2 (.slice An L.length cn) W11 from by first | exact HS21.out.below_ hb | exact (show St W g gm w2 h2 F2 rb2 w2 h2 F2 (.slice An L.length cn) W21.drew from HS21.out.dr 1).below_ hb); have hgt31 : W11.heap[gt]? = some (.cells #[.int .i64 a0, .int .i64 r0, .int .i64 r1, .int .i64 r2, .int .i64 r3, .int .i64 t0, .int .i64 t1, .int .i64 t2, .int .i64 t3, .int .i64 a9, .slice A10 ps.length c10] 52 (0, 0)) := (hb.block gt (blk_lt HG21.out)).trans HG21.out; have hgm31 : W11.heap[gm]? = some (.cells #[.int .i64 w2, .int .i64 h2, .slice An L.length cn] 33 (0, 0)) := HS31.out.box; have zy6 : W11.cell? ⟨gt, 6, none⟩ = some (.int .i64 t1) := (by rw [World.cell?, hgt31]; rfl); have zy9 : W11.cell? ⟨gt, 9, none⟩ = some (.int .i64 a9) := (by rw [World.cell?, hgt31]; rfl); have zb0 : W11.cell? ⟨gm, 0, none⟩ = some (.int .i64 w2) := (by rw [World.cell?, hgm31]; rfl); have zb1 : W11.cell? ⟨gm, 1, none⟩ = some (.int .i64 h2) := (by rw [World.cell?, hgm31]; rfl); have zb2 : W11.cell? ⟨gm, 2, none⟩ = some (.slice An L.length cn) := (by rw [World.cell?, hgm31]; rfl); have HG31 := Lib.hid hgt31; have HM31 := Lib.hid (show CI W11 An L from by first | exact Kd.C_below HM21.out hb | exact Kd.C_below (show CI W21.drew An L from HM21.out) hb); clear hgt31 hgm31; have HN3 := Lib.hid j3; clear hr hb j3 j4)
                  | (go_at_call 15; refine (X.miradorref12_SameImage.calls K w2 h2 A11 c11 L w2 h2 An cn L true _ (by exact HN3.out) j1 (by exact HM31.out) m1' (same_refl K hK w2 h2 _ hll)).mono ?_; rintro e W12 ⟨rfl, hb⟩; have HS32 := Lib.hid (show St W g gm w2 h2 F2 rb2 w2 h2 F2 (.slice An L.length cn) W12 from by first | exact HS31.out.below_ hb | exact (show St W g gm w2 h2 F2 rb2 w2 h2 F2 (.slice An L.length cn) W11.drew from HS31.out.dr 1).below_ hb); have hgt32 : W12.heap[gt]? = some (.cells #[.int .i64 a0, .int .i64 r0, .int .i64 r1, .int .i64 r2, .int .i64 r3, .int .i64 t0, .int .i64 t1, .int .i64 t2, .int .i64 t3, .int .i64 a9, .slice A10 ps.length c10] 52 (0, 0)) := (hb.block gt (blk_lt HG31.out)).trans HG31.out; have hgm32 : W12.heap[gm]? = some (.cells #[.int .i64 w2, .int .i64 h2, .slice An L.length cn] 33 (0, 0)) := HS32.out.box; have zy6 : W12.cell? ⟨gt, 6, none⟩ = some (.int .i64 t1) := (by rw [World.cell?, hgt32]; rfl); have zy9 : W12.cell? ⟨gt, 9, none⟩ = some (.int .i64 a9) := (by rw [World.cell?, hgt32]; rfl); have zb0 : W12.cell? ⟨gm, 0, none⟩ = some (.int .i64 w2) := (by rw [World.cell?, hgm32]; rfl); have zb1 : W12.cell? ⟨gm, 1, none⟩ = some (.int .i64 h2) := (by rw [World.cell?, hgm32]; rfl); have zb2 : W12.cell? ⟨gm, 2, none⟩ = some (.slice An L.length cn) := (by rw [World.cell?, hgm32]; rfl); have HG32 := Lib.hid hgt32; have HM32 := Lib.hid (show CI W12 An L from by first | exact Kd.C_below HM31.out hb | exact Kd.C_below (show CI W11.drew An L from HM31.out) hb); clear hgt32 hgm32; clear hb))
                all_goals
                  go_wp2_with fail
                  go_meet
                  exact ⟨rfl, HS32, HG32, HM32⟩
            case rest =>
              obtain ⟨rfl, HS40, HG40, HM40⟩ := hcut
              clear b0 b1 b2
              have y6 : wc.cell? ⟨gt, 6, none⟩ = some (.int .i64 t1) := by rw [World.cell?, HG40.out]; rfl
              have y9 : wc.cell? ⟨gt, 9, none⟩ = some (.int .i64 a9) := by rw [World.cell?, HG40.out]; rfl
              obtain ⟨b0, b1, b2, f0, f1, f2⟩ := HS40.out.cells
              clear f0 f1 f2
              have pe1 : (e == e) = true := by simp
              have pe2 : (e != e) = false := by simp
              go_upto_region 40 with (fail)
              go_cut [220] (fun s220 wx => s220 = .bool false ∧ Hid (St W g gm w2 h2 F2 rb2 w2 h2 F2 (.slice An L.length cn) wx))
              case first =>
                as_aux_lemma =>
                  go_region_held3 (fun w' => w'.cell? ⟨gt, 6, none⟩ = some (.int .i64 t1) ∧ w'.cell? ⟨gt, 9, none⟩ = some (.int .i64 a9) ∧ w'.cell? ⟨gm, 0, none⟩ = some (.int .i64 w2) ∧ w'.cell? ⟨gm, 1, none⟩ = some (.int .i64 h2) ∧ w'.cell? ⟨gm, 2, none⟩ = some (.slice An L.length cn)) (go_keep) (first
                    | (go_at_call 17; refine (At_c W.heap.size g rb2 w2 h2 F2 a9 t1 _ (by exact HS40.out.scr.1)).mono ?_; rintro e W13 ⟨rfl, ⟨ma, hma⟩⟩; have hb : Below wc.heap.size wc W13 := (by first | (rw [hma]; exact pw_below_drewN (Below.refl _ _) _) | (rw [hma]; exact pw_below_drewN (Below.drew (Below.refl _ _)) _)); have HS43 := Lib.hid (show St W g gm w2 h2 F2 rb2 w2 h2 F2 (.slice An L.length cn) W13 from by first | exact HS40.out.below_ hb | exact (show St W g gm w2 h2 F2 rb2 w2 h2 F2 (.slice An L.length cn) wc from HS40.out.dr 1).below_ hb); have hgt43 : W13.heap[gt]? = some (.cells #[.int .i64 a0, .int .i64 r0, .int .i64 r1, .int .i64 r2, .int .i64 r3, .int .i64 t0, .int .i64 t1, .int .i64 t2, .int .i64 t3, .int .i64 a9, .slice A10 ps.length c10] 52 (0, 0)) := (hb.block gt (blk_lt HG40.out)).trans HG40.out; have hgm43 : W13.heap[gm]? = some (.cells #[.int .i64 w2, .int .i64 h2, .slice An L.length cn] 33 (0, 0)) := HS43.out.box; have zy6 : W13.cell? ⟨gt, 6, none⟩ = some (.int .i64 t1) := (by rw [World.cell?, hgt43]; rfl); have zy9 : W13.cell? ⟨gt, 9, none⟩ = some (.int .i64 a9) := (by rw [World.cell?, hgt43]; rfl); have zb0 : W13.cell? ⟨gm, 0, none⟩ = some (.int .i64 w2) := (by rw [World.cell?, hgm43]; rfl); have zb1 : W13.cell? ⟨gm, 1, none⟩ = some (.int .i64 h2) := (by rw [World.cell?, hgm43]; rfl); have zb2 : W13.cell? ⟨gm, 2, none⟩ = some (.slice An L.length cn) := (by rw [World.cell?, hgm43]; rfl); have HG43 := Lib.hid hgt43; have HM43 := Lib.hid (show CI W13 An L from by first | exact Kd.C_below HM40.out hb | exact Kd.C_below (show CI wc An L from HM40.out) hb); clear hgt43 hgm43; clear hb hma)
                    | (go_at_call 30; refine (X.miradorref14_At.calls w2 h2 An cn L a9 t1 (atF w2 h2 F2 a9 t1) _ (by exact HM43.out) m1' (by rw [← HL.out]; exact rat_f w2 h2 a9 t1 F2 hd5)).mono ?_; rintro e W14 ⟨rfl, hb⟩; have HS44 := Lib.hid (show St W g gm w2 h2 F2 rb2 w2 h2 F2 (.slice An L.length cn) W14 from by first | exact HS43.out.below_ hb | exact (show St W g gm w2 h2 F2 rb2 w2 h2 F2 (.slice An L.length cn) W13.drew from HS43.out.dr 1).below_ hb); have hgt44 : W14.heap[gt]? = some (.cells #[.int .i64 a0, .int .i64 r0, .int .i64 r1, .int .i64 r2, .int .i64 r3, .int .i64 t0, .int .i64 t1, .int .i64 t2, .int .i64 t3, .int .i64 a9, .slice A10 ps.length c10] 52 (0, 0)) := (hb.block gt (blk_lt HG43.out)).trans HG43.out; have hgm44 : W14.heap[gm]? = some (.cells #[.int .i64 w2, .int .i64 h2, .slice An L.length cn] 33 (0, 0)) := HS44.out.box; have zy6 : W14.cell? ⟨gt, 6, none⟩ = some (.int .i64 t1) := (by rw [World.cell?, hgt44]; rfl); have zy9 : W14.cell? ⟨gt, 9, none⟩ = some (.int .i64 a9) := (by rw [World.cell?, hgt44]; rfl); have zb0 : W14.cell? ⟨gm, 0, none⟩ = some (.int .i64 w2) := (by rw [World.cell?, hgm44]; rfl); have zb1 : W14.cell? ⟨gm, 1, none⟩ = some (.int .i64 h2) := (by rw [World.cell?, hgm44]; rfl); have zb2 : W14.cell? ⟨gm, 2, none⟩ = some (.slice An L.length cn) := (by rw [World.cell?, hgm44]; rfl); have HG44 := Lib.hid hgt44; have HM44 := Lib.hid (show CI W14 An L from by first | exact Kd.C_below HM43.out hb | exact Kd.C_below (show CI W13.drew An L from HM43.out) hb); clear hgt44 hgm44; clear hb))
                  all_goals
                    go_wp2_with fail
                    go_meet
                    exact ⟨by first | rfl | simp, HS44⟩
              case rest =>
                obtain ⟨rfl, HS50⟩ := hcut
                clear b0 b1 b2 y6 y9 pe1 pe2
                go_wp2_with fail
                go_roundw
                case rel => exact ⟨k + 1, w2, h2, F2, rb2, _, by omega, by go_num, HS50⟩
                case measure => simp [intOf]; omega
        · go_wp2_with fail
          go_ret
          exact ⟨rfl, HS.out.below⟩
  · have HNB := Lib.hid hb
    go_enter Try.func6, Try.ntmps6
    go_wp2_with fail
    refine (works_c _).mono ?_
    rintro e W1 ⟨rfl, hb1⟩
    have HB := Lib.hid hb1
    clear hb1
    go_wp2_with fail
    refine (X.miradorlaw14_over.calls K w h a cap zs ov _ (Kd.C_below HC.out HB.out) hlc HOV.out).mono ?_
    rintro e _ ⟨rfl, ⟨m0, rfl⟩⟩
    have HB2 := Lib.hid (pw_below_drewN HB.out m0)
    cases ov with
    | true =>
      go_wp2_with fail
      go_ret
      exact ⟨rfl, HB2.out⟩
    | false =>
      go_wp2_with fail
      refine (New_bad w h _ HNB.out).mono ?_
      rintro e W3 ⟨rfl, hb3⟩
      have HB3 := Lib.hid (HB2.out.trans (Below.mono hb3 HB2.out.size))
      clear hb3
      by_cases hw1 : 1 ≤ w ∧ w ≤ 4096
      · have hh1 : ¬ (1 ≤ h ∧ h ≤ 4096) := fun hh => HNB.out ⟨hw1.1, hw1.2, hh⟩
        have hs1 := HS1.out
        have hs2 := HS2.out
        rw [decide_eq_true hw1] at hs1
        rw [decide_eq_false hh1] at hs2
        have HS1 := Lib.hid hs1
        have HS2 := Lib.hid hs2
        clear hs1 hs2 hb hw1 hh1
        go_wp2_with fail
        refine (X.miradorref14_Side.calls w true _ HS1.out).mono ?_
        rintro e _ ⟨rfl, ⟨m1, rfl⟩⟩
        go_wp2_with fail
        refine (X.miradorref14_Side.calls h false _ HS2.out).mono ?_
        rintro e _ ⟨rfl, ⟨m2, rfl⟩⟩
        go_wp2_with fail
        go_ret
        exact ⟨rfl, pw_below_drewN HB3.out _⟩
      · have hs1 := HS1.out
        rw [decide_eq_false hw1] at hs1
        have HS1 := Lib.hid hs1
        clear hs1 hb hw1
        go_wp2_with fail
        refine (X.miradorref14_Side.calls w false _ HS1.out).mono ?_
        rintro e _ ⟨rfl, ⟨m1, rfl⟩⟩
        go_wp2_with fail
        go_ret
        exact ⟨rfl, pw_below_drewN HB3.out _⟩
end Go.Proofs.Ytjcibgopebpkiaa.H
