/- A screen by its places: Resize. No condition. -/
import Derived.Test.YtjcibgopebpkiaaSC9
import Derived.Deep.DeepCutAuto
import Derived.Deep.RegionHeld3
namespace Go.Proofs.Ytjcibgopebpkiaa.SC
open Go.RowKit Go.Proofs.YtjcibgopebpkiaaW.PrintWords Go.Proofs.YtjcibgopebpkiaaW.PrintLast Go.Proofs.YtjcibgopebpkiaaW.PrintMore Go.Proofs.Ytjcibgopebpkiaa.B Go.Proofs.Ytjcibgopebpkiaa.SCP
set_option linter.unusedVariables false
set_option linter.unusedSimpArgs false
set_option maxHeartbeats 1000000 in
set_option maxRecDepth 100000 in
theorem Resize_bad (B g rb : Nat) (w h : Int) (F : Nat → Int) (w2 h2 : Int) (W : World) (hs : SIs B g rb w h F W) (hb : ¬ (1 ≤ w2 ∧ w2 ≤ 4096 ∧ 1 ≤ h2 ∧ h2 ≤ 4096)) :
    Calls Try.prog 26 #[.pointer (some ⟨g, 0, none⟩), .int .i64 w2, .int .i64 h2] W fun e W' => e = .returned (.int .i64 1) ∧ Below W.heap.size W W' := by
  have HS := Lib.hid hs
  have HB := Lib.hid hb
  clear hs hb
  go_enter Try.func26, Try.ntmps26
  go_wp2_with fail
  refine (New_bad w2 h2 _ HB.out).mono ?_
  rintro e w1 ⟨rfl, hb⟩
  have HB := Lib.hid hb
  clear hb
  go_wp2_with fail
  go_ret
  exact ⟨rfl, HB.out⟩
theorem rect_box {W w1 : World} (h3 : Below (W.alloc (.cells #[.int .i64 0, .int .i64 0, .int .i64 0, .int .i64 0] 30)).drew.heap.size (W.alloc (.cells #[.int .i64 0, .int .i64 0, .int .i64 0, .int .i64 0] 30)).drew w1) :
    w1.heap[W.heap.size]? = some (.cells #[.int .i64 0, .int .i64 0, .int .i64 0, .int .i64 0] 30 (0, 0)) ∧ w1.cell? ⟨W.heap.size, 0, none⟩ = some (.int .i64 0) ∧ w1.cell? ⟨W.heap.size, 1, none⟩ = some (.int .i64 0) ∧ w1.cell? ⟨W.heap.size, 2, none⟩ = some (.int .i64 0) ∧ w1.cell? ⟨W.heap.size, 3, none⟩ = some (.int .i64 0) ∧ w1.frozen? ⟨W.heap.size, 0, none⟩ = false ∧ w1.frozen? ⟨W.heap.size, 1, none⟩ = false ∧ w1.frozen? ⟨W.heap.size, 2, none⟩ = false ∧ w1.frozen? ⟨W.heap.size, 3, none⟩ = false ∧ Below W.heap.size W w1 := by
  have h : w1.heap[W.heap.size]? = some (.cells #[.int .i64 0, .int .i64 0, .int .i64 0, .int .i64 0] 30 (0, 0)) := (h3.block W.heap.size (by simp)).trans (heap_alloc_new W _)
  exact ⟨h, by rw [World.cell?, h]; rfl, by rw [World.cell?, h]; rfl, by rw [World.cell?, h]; rfl, by rw [World.cell?, h]; rfl, blk_frozen h _, blk_frozen h _, blk_frozen h _, blk_frozen h _, (Below.drew (below_alloc (Below.refl _ _) _)).trans (Below.mono h3 (by simp))⟩
set_option maxHeartbeats 4000000 in
set_option maxRecDepth 100000 in
theorem Resize_c (B g rb : Nat) (w h : Int) (F : Nat → Int) (w2 h2 : Int) (W : World) (hs : SIs B g rb w h F W) (hBW : B ≤ W.heap.size) (hb : 1 ≤ w2 ∧ w2 ≤ 4096 ∧ 1 ≤ h2 ∧ h2 ≤ 4096) (hF : ∀ i, i < (w * h).toNat → isC (F i) = true) :
    Calls Try.prog 26 #[.pointer (some ⟨g, 0, none⟩), .int .i64 w2, .int .i64 h2] W fun e W' => e = .returned (.int .i64 0) ∧
      ∃ rb2, W.heap.size ≤ rb2 ∧ SIs B g rb2 w2 h2 (blitF w2 0 0 (min w2 w) (min h2 h) (fun _ => 0) (partF w 0 0 F (min w2 w).toNat)) W' ∧ KP g W W' := by
  have hlt := hs.lt
  have hd := hs.2.2.2
  have HS := Lib.hid hs
  have HB := Lib.hid hb
  have HF := Lib.hid hF
  obtain ⟨bw, hbw⟩ : ∃ bw, min w2 w = bw := ⟨_, rfl⟩
  obtain ⟨bh, hbh⟩ : ∃ bh, min h2 h = bh := ⟨_, rfl⟩
  have HIN := Lib.hid (show inside 0 0 bw bh w h from by unfold inside; omega)
  have HIN2 := Lib.hid (show inside 0 0 bw bh w2 h2 from by unfold inside; omega)
  have HBW := Lib.hid hbw
  have HBH := Lib.hid hbh
  rw [hbw, hbh]
  clear hs hb hF hbw hbh
  go_enter Try.func26, Try.ntmps26
  go_wp2_with fail
  refine (New_c B w2 h2 _ hBW HB.out).mono ?_
  rintro e w1 ⟨gt, rt, rfl, ht, hgt, hrt, hb1⟩
  have HT := Lib.hid ht
  have HB1 := Lib.hid hb1
  have hs1 : SIs B g rb w h F w1 := HS.out.keep (Kept.of_below hb1 (fun _ => False)) (fun h => h) (fun h => h)
  obtain ⟨c0, c1, c2⟩ := hs1.cells
  have HS1 := Lib.hid hs1
  have hlt1 := hs1.lt
  clear ht hb1 hs1
  have hm1 := HBW.out
  have hm2 := HBH.out
  go_upto_region 4 with (fail)
  go_cut [9] (fun s9 wx => ∃ gb : Nat, s9 = .pointer (some ⟨gb, 0, none⟩) ∧ w1.heap.size ≤ gb ∧ wx.heap[gb]? = some (.cells #[.int .i64 0, .int .i64 0, .int .i64 bw, .int .i64 bh] 30 (0, 0)) ∧ Below w1.heap.size w1 wx)
  case first =>
    clear HS HB HF HIN HIN2 HBW HBH hgt hrt HT HB1 HS1 hlt hd hBW c2
    have n0 := World.new_ne w1 _ c0
    have n1 := World.new_ne w1 _ c1
    have n2 : g ≠ w1.heap.size := by omega
    go_region_held3 (fun w' => w'.cell? ⟨g, 0, none⟩ = some (.int .i64 w) ∧ w'.cell? ⟨g, 1, none⟩ = some (.int .i64 h)) (go_keep) ((go_at_call 11; refine (X.screen_Whole.calls bw bh 0 0 bw bh _ rfl).mono ?_; rintro e w2 ⟨rfl, hb1⟩; have j0 : w2.cell? ⟨g, 0, none⟩ = some (.int .i64 w) := (by rw [hb1.cell (p := ⟨g, 0, none⟩) (by simp; omega)]; first | exact c0 | (simp [*]; done)); have j1 : w2.cell? ⟨g, 1, none⟩ = some (.int .i64 h) := (by rw [hb1.cell (p := ⟨g, 1, none⟩) (by simp; omega)]; first | exact c1 | (simp [*]; done)); have m0 := World.new_ne w2 _ j0; have m1 := World.new_ne w2 _ j1; first | (obtain ⟨hbx, e0, e1, e2, e3, f0, f1, f2, f3, hbW⟩ := rect_box hb1; have HX := Lib.hid hbx; have HBX := Lib.hid hbW; clear hb1 hbx hbW) | (have HX := Lib.hid hb1; clear hb1)))
    all_goals
      go_wp2_with fail
      go_meet
      first
        | (have hB := HBX.out
           have hs := blk_set (blk_set (blk_set (blk_set HX.out 0 (.int .i64 0)) 1 (.int .i64 0)) 2 (.int .i64 bw)) 3 (.int .i64 bh)
           have hk := (((hB.setCell (p := ⟨w1.heap.size, 0, none⟩) (Nat.le_refl _) (.int .i64 0)).setCell (p := ⟨w1.heap.size, 1, none⟩) (Nat.le_refl _) (.int .i64 0)).setCell (p := ⟨w1.heap.size, 2, none⟩) (Nat.le_refl _) (.int .i64 bw)).setCell (p := ⟨w1.heap.size, 3, none⟩) (Nat.le_refl _) (.int .i64 bh)
           refine ⟨w1.heap.size, rfl, Nat.le_refl _, ?_, ?_⟩
           · exact hs
           · exact hk)
        | (have hB : Below w1.heap.size w1 w2 := (pw_below_drewN (Below.refl _ _) 1).trans HX.out
           have hs := heap_alloc_new w2 (.cells #[.int .i64 0, .int .i64 0, .int .i64 bw, .int .i64 bh] 30)
           have hk := below_alloc hB (.cells #[.int .i64 0, .int .i64 0, .int .i64 bw, .int .i64 bh] 30)
           refine ⟨w2.heap.size, rfl, hB.size, ?_, ?_⟩
           · exact hs
           · exact hk)
  case rest =>
    obtain ⟨gb, rfl, hgb, hbx, hb2⟩ := hcut
    have q0 : wc.cell? ⟨gb, 0, none⟩ = some (.int .i64 0) := by rw [World.cell?, hbx]; rfl
    have q1 : wc.cell? ⟨gb, 1, none⟩ = some (.int .i64 0) := by rw [World.cell?, hbx]; rfl
    have q2 : wc.cell? ⟨gb, 2, none⟩ = some (.int .i64 bw) := by rw [World.cell?, hbx]; rfl
    have q3 : wc.cell? ⟨gb, 3, none⟩ = some (.int .i64 bh) := by rw [World.cell?, hbx]; rfl
    have HS2 := Lib.hid (HS1.out.keep (Kept.of_below hb2 (fun _ => False)) (fun h => h) (fun h => h))
    have HT2 := Lib.hid (HT.out.keep (Kept.of_below hb2 (fun _ => False)) (fun h => h) (fun h => h))
    have HB2 := Lib.hid (HB1.out.trans (Below.mono hb2 HB1.out.size))
    have HBX := Lib.hid hbx
    have hm3 : 1 ≤ bw ∧ bw ≤ 4096 ∧ 1 ≤ bh ∧ bh ≤ 4096 := by have := HB.out; omega
    clear hbx hb2 c0 c1 c2 hm1 hm2 HS1
    go_wp2_with fail
    refine (Part_c B g rb w h F 0 0 bw bh _ HS2.out HIN.out).mono ?_
    rintro e w3 ⟨v, rfl, ho, hb3⟩
    obtain ⟨bwn, rfl⟩ : ∃ bwn : Nat, bw = bwn := ⟨bw.toNat, by omega⟩
    obtain ⟨bhn, rfl⟩ : ∃ bhn : Nat, bh = bhn := ⟨bh.toNat, by omega⟩
    rw [Int.toNat_natCast, Int.toNat_natCast] at ho
    obtain ⟨A, c, rfl⟩ := own_slice ho
    have ho2 := ho
    rw [partL_length, partL_map] at ho2
    obtain ⟨hp1, hp2, hp3, hp4⟩ := own_pix ho2
    have hbx3 : w3.heap[gb]? = some (.cells #[.int .i64 0, .int .i64 0, .int .i64 bwn, .int .i64 bhn] 30 (0, 0)) := (hb3.block gb (blk_lt HBX.out)).trans HBX.out
    have q0 : w3.cell? ⟨gb, 0, none⟩ = some (.int .i64 0) := by rw [World.cell?, hbx3]; rfl
    have q1 : w3.cell? ⟨gb, 1, none⟩ = some (.int .i64 0) := by rw [World.cell?, hbx3]; rfl
    have q2 : w3.cell? ⟨gb, 2, none⟩ = some (.int .i64 bwn) := by rw [World.cell?, hbx3]; rfl
    have q3 : w3.cell? ⟨gb, 3, none⟩ = some (.int .i64 bhn) := by rw [World.cell?, hbx3]; rfl
    have HT3 := Lib.hid (HT2.out.keep (Kept.of_below hb3 (fun _ => False)) (fun h => h) (fun h => h))
    have HB3 := Lib.hid (HB2.out.trans (Below.mono hb3 HB2.out.size))
    have hn : bhn * bwn ≤ 16777216 := Nat.le_trans (Nat.mul_le_mul (show bhn ≤ 4096 by omega) (show bwn ≤ 4096 by omega)) (by decide)
    have hne : ∀ ad, A = some ad → 0 < bhn * bwn → ad.block ≠ rt := fun ad ha _ => by
      have h1 := hp2 ad ha
      have h2 := HT2.out.lt.2
      omega
    have hbl := Blit_v B gt rt w2 h2 (fun _ => 0) 0 0 bwn bhn A (bhn * bwn) c (partF w 0 0 F bwn) w3 HT3.out HIN2.out (by omega) hp3 hp4 hp1 hne (by push_cast; exact Int.mul_comm _ _) (by
      rw [List.all_eq_true]
      intro i hi
      have hi := List.mem_range.1 hi
      have hr : 0 < bwn := by
        rcases Nat.eq_zero_or_pos bwn with h | h
        · subst h; simp at hi
        · exact h
      have hk : i / bwn < bhn := (Nat.div_lt_iff_lt_mul hr).2 hi
      have hm := Nat.mod_lt i hr
      obtain ⟨i1, i2, i3, i4, i5, i6⟩ := HIN.out
      have hfit := row_fits (k := i / bwn) (show 0 < w by omega) i1 i2 i3 i5 i6 (by omega)
      exact HF.out _ (by omega))
    rw [show bhn * bwn = (partL w 0 0 F bwn bhn).length from (partL_length w 0 0 F bwn bhn).symm] at hbl
    have HBL := Lib.hid hbl
    clear hbl ho ho2 hp1 hp2 hp3 hp4 hbx3 hb3 hne hn
    go_wp2_with fail
    refine HBL.out.mono ?_
    rintro e w4 ⟨rfl, h1, h2⟩
    obtain ⟨d0, d1, d2⟩ := h1.cells
    have HT4 := Lib.hid h1
    have HK4 := Lib.hid h2
    have hg4 : w4.heap[g]? = some (.cells #[.int .i64 w, .int .i64 h, .slice (some ⟨rb, 0, none⟩) (w * h).toNat (w * h).toNat] 66 (0, 0)) := by
      rw [h2.block g (by have := HB3.out.size; omega) (by omega), HB3.out.block g hlt.1]; exact HS.out.2.1
    have k0 : w4.cell? ⟨g, 0, none⟩ = some (.int .i64 w) := by rw [World.cell?, hg4]; rfl
    have k1 : w4.cell? ⟨g, 1, none⟩ = some (.int .i64 h) := by rw [World.cell?, hg4]; rfl
    have k2 : w4.cell? ⟨g, 2, none⟩ = some (.slice (some ⟨rb, 0, none⟩) (w * h).toNat (w * h).toNat) := by rw [World.cell?, hg4]; rfl
    have f0 := blk_frozen hg4 0
    have f1 := blk_frozen hg4 1
    have f2 := blk_frozen hg4 2
    have HG4 := Lib.hid hg4
    clear h1 h2 hg4 q0 q1 q2 q3
    go_wp2_with fail
    go_ret
    have hs5 := blk_set (blk_set (blk_set HG4.out 0 (.int .i64 w2)) 1 (.int .i64 h2)) 2 (.slice (some ⟨rt, 0, none⟩) (w2 * h2).toNat (w2 * h2).toNat)
    have hkp : KP g W (((w4.setCell ⟨g, 0, none⟩ (.int .i64 w2)).setCell ⟨g, 1, none⟩ (.int .i64 h2)).setCell ⟨g, 2, none⟩ (.slice (some ⟨rt, 0, none⟩) (w2 * h2).toNat (w2 * h2).toNat)) :=
      (((show KP g W w4 from ⟨HK4.out.os.trans HB3.out.os, HK4.out.tape.trans HB3.out.tape, HK4.out.output.trans HB3.out.output, Nat.le_trans HB3.out.size HK4.out.size, fun k hk hn => (HK4.out.block k (by have := HB3.out.size; omega) (by omega)).trans (HB3.out.block k hk)⟩).setCell 0 _).setCell 1 _).setCell 2 _
    refine ⟨rfl, rt, hrt, ⟨⟨HS.out.1.1, HT4.out.1.2.1, by omega⟩, hs5, ?_, HB.out⟩, hkp⟩
    refine HT4.out.2.2.1.move ?_
    have hne : rt ≠ g := by omega
    rw [Below.heap_setCell _ _ _ _ hne, Below.heap_setCell _ _ _ _ hne, Below.heap_setCell _ _ _ _ hne]
end Go.Proofs.Ytjcibgopebpkiaa.SC
