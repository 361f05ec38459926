/- ScreenParts: what is cut into parts and drawn part by part elsewhere, each at its place, is the same screen. No condition. -/
import Derived.Test.YtjcibgopebpkiaaSCW
namespace Go.Proofs.Ytjcibgopebpkiaa.H
open Go.RowKit Go.Proofs.YtjcibgopebpkiaaW.PrintWords Go.Proofs.YtjcibgopebpkiaaW.PrintLast Go.Proofs.YtjcibgopebpkiaaW.PrintMore Go.Proofs.Ytjcibgopebpkiaa.B Go.Proofs.Ytjcibgopebpkiaa.SCP Go.Proofs.Ytjcibgopebpkiaa.SC
set_option linter.unusedVariables false
set_option linter.unusedSimpArgs false
theorem ci_of {W : World} {a : Option Addr} {len cap : Nat} {zs : List Int} (h : (a = none ∧ len = 0 ∧ cap = 0 ∧ zs = []) ∨ ∃ x, a = some x ∧ len ≤ cap ∧ cap ≤ maxLen ∧ zs.length = cap ∧ (∀ i, i < zs.length → W.cell? (x.add i) = some (.int .i64 (zs.getD i 0))) ∧ ∀ n ∈ zs, (Lit.int .i64 n).wf = true) :
    (zs.take len).length = len ∧ len ≤ cap ∧ cap ≤ 9223372036854775807 ∧ CI W a (zs.take len) := by
  rcases h with ⟨rfl, rfl, rfl, rfl⟩ | ⟨x, rfl, hl, hm, hz, hc, hw⟩
  · exact ⟨rfl, Nat.le_refl _, by decide, Kd.C_nil _ _⟩
  · have hm' : cap ≤ 9223372036854775807 := by unfold maxLen at hm; omega
    have hll : (zs.take len).length = len := by rw [List.length_take]; omega
    refine ⟨hll, hl, hm', Kd.C_of_reads (d := 0) ⟨rfl, by omega, fun _ => ⟨x, rfl, fun j hj => ?_⟩⟩⟩
    rw [hc j (by omega)]
    rw [List.getD_eq_getElem?_getD, List.getD_eq_getElem?_getD, List.getElem?_take_of_lt (by omega)]
theorem area_20 {w h : Int} (w1 : 1 ≤ w) (w2 : w ≤ 20) (h1 : 1 ≤ h) (h2 : h ≤ 20) : 1 ≤ w * h ∧ w * h ≤ 400 := by
  have a : w * h ≤ 20 * h := Int.mul_le_mul_of_nonneg_right w2 (by omega)
  have b : 1 * h ≤ w * h := Int.mul_le_mul_of_nonneg_right w1 (by omega)
  omega
/-- The four rectangles. -/
def rcx (x : Int) (k : Nat) : Int := if k % 2 = 1 then x else 0
def rcy (y : Int) (k : Nat) : Int := if 2 ≤ k then y else 0
def rcw (w x : Int) (k : Nat) : Int := if k % 2 = 1 then w - x else x
def rch (h y : Int) (k : Nat) : Int := if 2 ≤ k then h - y else y
/-- The second screen's colours when k parts have been drawn. -/
def prt (w h x y : Int) (Fa : Nat → Int) : Nat → Nat → Int
  | 0 => fun _ => 0
  | k + 1 => blitF w (rcx x k) (rcy y k) (rcw w x k) (rch h y k) (prt w h x y Fa k) (partF w (rcx x k) (rcy y k) Fa (rcw w x k).toNat)
theorem blit_part {w h x y rw rh : Int} {F Fa : Nat → Int} (h1 : 1 ≤ w ∧ w ≤ 4096 ∧ 1 ≤ h ∧ h ≤ 4096) (hin : inside x y rw rh w h) (i : Nat) : blitF w x y rw rh F (partF w x y Fa rw.toNat) i = if inR w x y rw rh i = true then Fa i else F i := by
  unfold blitF
  split
  · rename_i hR
    have hR2 := hR
    unfold inR at hR2
    have hR2 := of_decide_eq_true hR2
    have hx := @idxR_lt w x y rw rh i (by omega) hin.2.2.1 hR (by have := rect_le h1 hin; omega)
    refine cnt_in h1 hin i hR Fa _ ?_
    unfold cnt
    rw [if_pos ⟨hR2.2.2.1, hR2.2.2.2⟩]
    have h1' : cl ((i : Int) / w) y rh = (i : Int) / w - y := by unfold cl; omega
    have h2' : cl ((i : Int) % w) x rw = (i : Int) % w - x := by unfold cl; omega
    rw [h1', h2']
    unfold idxR
    omega
  · rfl
theorem rc_in {w h x y : Int} (hx : 0 ≤ x ∧ x ≤ w) (hy : 0 ≤ y ∧ y ≤ h) (k : Nat) : inside (rcx x k) (rcy y k) (rcw w x k) (rch h y k) w h := by
  unfold inside rcx rcy rcw rch
  split <;> split <;> omega
theorem prt_all {w h x y : Int} {Fa : Nat → Int} (h1 : 1 ≤ w ∧ w ≤ 4096 ∧ 1 ≤ h ∧ h ≤ 4096) (hx : 0 ≤ x ∧ x ≤ w) (hy : 0 ≤ y ∧ y ≤ h) (i : Nat) (hi : i < (w * h).toNat) : prt w h x y Fa 4 i = Fa i := by
  have e1 := Int.emod_nonneg (i : Int) (show w ≠ 0 by omega)
  have e2 := Int.emod_lt_of_pos (i : Int) (show 0 < w by omega)
  have e3 : 0 ≤ (i : Int) / w := Int.ediv_nonneg (by omega) (by omega)
  have e4 : (i : Int) / w < h := Int.ediv_lt_of_lt_mul (by omega) (by rw [Int.mul_comm]; omega)
  simp only [prt]
  rw [blit_part h1 (rc_in hx hy 3), blit_part h1 (rc_in hx hy 2), blit_part h1 (rc_in hx hy 1), blit_part h1 (rc_in hx hy 0)]
  simp only [show rcx x 0 = 0 from rfl, show rcx x 1 = x from rfl, show rcx x 2 = 0 from rfl, show rcx x 3 = x from rfl, show rcy y 0 = 0 from rfl, show rcy y 1 = 0 from rfl, show rcy y 2 = y from rfl, show rcy y 3 = y from rfl, show rcw w x 0 = x from rfl, show rcw w x 1 = w - x from rfl, show rcw w x 2 = x from rfl, show rcw w x 3 = w - x from rfl, show rch h y 0 = y from rfl, show rch h y 1 = y from rfl, show rch h y 2 = h - y from rfl, show rch h y 3 = h - y from rfl]
  unfold inR
  generalize (i : Int) / w = r at *
  generalize (i : Int) % w = j at *
  simp only [decide_eq_true_iff]
  by_cases ha : j < x
  · by_cases hb : r < y
    · rw [if_neg (by omega), if_neg (by omega), if_neg (by omega), if_pos (by omega)]
    · rw [if_neg (by omega), if_pos (by omega)]
  · by_cases hb : r < y
    · rw [if_neg (by omega), if_neg (by omega), if_pos (by omega)]
    · rw [if_pos (by omega)]
set_option maxHeartbeats 4000000 in
set_option maxRecDepth 100000 in
theorem ScreenParts_walk (w h : Int) (a : Option Addr) (len cap : Nat) (zs : List Int) (x y : Int) (W : World) (hw : (Lit.int .i64 w).wf = true) (hh : (Lit.int .i64 h).wf = true) (hz : (a = none ∧ len = 0 ∧ cap = 0 ∧ zs = []) ∨ ∃ x, a = some x ∧ len ≤ cap ∧ cap ≤ maxLen ∧ zs.length = cap ∧ (∀ i, i < zs.length → W.cell? (x.add i) = some (.int .i64 (zs.getD i 0))) ∧ ∀ n ∈ zs, (Lit.int .i64 n).wf = true) (hsz : len * 8 ≤ 140737488351232) (hx : (Lit.int .i64 x).wf = true) (hy : (Lit.int .i64 y).wf = true) :
    Calls Try.prog 5 #[.int .i64 w, .int .i64 h, .slice a len cap, .int .i64 x, .int .i64 y] W fun e W' => e = .returned (.bool true) ∧ Below W.heap.size W W' := by
  obtain ⟨w0, w1⟩ := wf64 hw
  obtain ⟨h0, h1⟩ := wf64 hh
  obtain ⟨x0, x1⟩ := wf64 hx
  obtain ⟨y0, y1⟩ := wf64 hy
  obtain ⟨hpl, hlc, hcm, hp⟩ := ci_of hz
  have HP := Lib.hid hp
  have HPL := Lib.hid hpl
  clear hw hh hx hy hz hp hpl
  go_enter Try.func5, Try.ntmps5
  go_wp2_with fail
  refine (works_c _).mono ?_
  rintro e W1 ⟨rfl, hb⟩
  have HB := Lib.hid hb
  clear hb
  by_cases hg : 1 ≤ w ∧ w ≤ 20 ∧ 1 ≤ h ∧ h ≤ 20 ∧ 0 ≤ x ∧ x ≤ w ∧ 0 ≤ y ∧ y ≤ h
  · obtain ⟨g1, g2, g3, g4, g5, g6, g7, g8⟩ := hg
    have harea := area_20 g1 g2 g3 g4
    go_wp2_with fail
    refine (New_s W.heap.size w h _ HB.out.size (by omega)).mono ?_
    rintro e W2 ⟨ga, ra, rfl, hs, hga, hra, hb⟩
    have HS := Lib.hid hs
    have HB2 := Lib.hid (HB.out.trans (Below.mono hb HB.out.size))
    clear hs hb
    go_wp2_with fail
    refine (New_s W.heap.size w h _ HB2.out.size (by omega)).mono ?_
    rintro e W3 ⟨gb, rb, rfl, hs, hgb, hrb, hb⟩
    have HT := Lib.hid hs
    have HS2 := Lib.hid (HS.out.below hb)
    have HB3 := Lib.hid (HB2.out.trans (Below.mono hb HB2.out.size))
    have hlt := HS.out.1.lt
    clear hs hb
    go_wp2_with fail
    refine (X.screen_Whole.calls w h 0 0 w h _ rfl).mono ?_
    rintro e W4 ⟨rfl, hb⟩
    have HT2 := Lib.hid (HT.out.below hb)
    have HS3 := Lib.hid (HS2.out.below hb)
    have HB4 := Lib.hid (HB3.out.trans (Below.mono hb HB3.out.size))
    clear hb
    go_wp2_with fail
    have hbl := Blit_s W.heap.size ga ra w h (fun _ => 0) 0 0 w h a (zs.take len) cap W4 HS3.out (Kd.C_below HP.out HB4.out) (by rw [HPL.out]; omega) (by rw [HPL.out]; omega) hcm (fun ad ha h0 => by have := HP.out.lt ad ha h0; have := HB.out.size; omega)
    rw [HPL.out] at hbl
    refine hbl.mono ?_
    rintro e W5 ⟨rfl, hs, hk⟩
    obtain ⟨be, hbe⟩ : ∃ be, blitE w h 0 0 w h (zs.take len) = be := ⟨_, rfl⟩
    obtain ⟨Fa, hFa⟩ : ∃ Fa, blitG w h 0 0 w h (zs.take len) (fun _ => 0) = Fa := ⟨_, rfl⟩
    rw [hbe]
    rw [hFa] at hs
    have HS4 := Lib.hid hs
    have hlb := HT.out.1.lt
    have HT3 := Lib.hid (HT2.out.keep hk.kept (by omega) (by omega))
    have HB5 := Lib.hid (HB4.out.trans (hk.below HS3.out.1.1.2.1 HB4.out.size))
    clear hbl hs hk hbe hFa HS HS2 HS3 HT HT2 HB HB2 HB3 HB4
    by_cases h0 : be = 0
    · subst h0
      have e1 : IntKind.i64.wrap (w - x) = w - x := by rw [IntKind.wrap_i64]; omega
      have e2 : IntKind.i64.wrap (h - y) = h - y := by rw [IntKind.wrap_i64]; omega
      go_wp2_with fail
      obtain ⟨gl, hgl⟩ : ∃ gl, W5.heap.size = gl := ⟨_, rfl⟩
      obtain ⟨Wl, hWl⟩ : ∃ Wl, W5.alloc (.cells #[.int .i64 0, .int .i64 0, .int .i64 x, .int .i64 y, .int .i64 x, .int .i64 0, .int .i64 (w - x), .int .i64 y, .int .i64 0, .int .i64 y, .int .i64 x, .int .i64 (h - y), .int .i64 x, .int .i64 y, .int .i64 (w - x), .int .i64 (h - y)] 30) = Wl := ⟨_, rfl⟩
      have hL0 := heap_alloc_new W5 (.cells #[.int .i64 0, .int .i64 0, .int .i64 x, .int .i64 y, .int .i64 x, .int .i64 0, .int .i64 (w - x), .int .i64 y, .int .i64 0, .int .i64 y, .int .i64 x, .int .i64 (h - y), .int .i64 x, .int .i64 y, .int .i64 (w - x), .int .i64 (h - y)] 30)
      have hbl := below_alloc (Below.refl W5.heap.size W5) (.cells #[.int .i64 0, .int .i64 0, .int .i64 x, .int .i64 y, .int .i64 x, .int .i64 0, .int .i64 (w - x), .int .i64 y, .int .i64 0, .int .i64 y, .int .i64 x, .int .i64 (h - y), .int .i64 x, .int .i64 y, .int .i64 (w - x), .int .i64 (h - y)] 30)
      rw [hWl] at hL0 hbl
      rw [hgl] at hL0
      have HL0 := Lib.hid hL0
      have HSl := Lib.hid (HS4.out.below hbl)
      have HTl := Lib.hid (HT3.out.below hbl)
      have HBl := Lib.hid (HB5.out.trans (Below.mono hbl HB5.out.size))
      have hglt : gl < Wl.heap.size := blk_lt hL0
      have hne : rb ≠ gl ∧ gb ≠ gl ∧ ra ≠ gl ∧ ga ≠ gl ∧ W.heap.size ≤ gl := by
        have a1 := HS4.out.1.lt
        have a2 := HT3.out.1.lt
        have a3 := HB5.out.size
        omega
      have hap : ga ≠ gb ∧ ga ≠ rb ∧ ra ≠ gb ∧ ra ≠ rb := by omega
      rw [hgl, hWl]
      clear hWl hL0 hbl hgl
      go_loopw [17] (fun i wr => ∃ k : Nat, k ≤ 4 ∧ i = .int .i64 k ∧ Hid (Scr W.heap.size ga ra w h Fa wr) ∧ Hid (Scr W.heap.size gb rb w h (prt w h x y Fa k) wr) ∧ Hid (wr.heap[gl]? = some (.cells #[.int .i64 0, .int .i64 0, .int .i64 x, .int .i64 y, .int .i64 x, .int .i64 0, .int .i64 (w - x), .int .i64 y, .int .i64 0, .int .i64 y, .int .i64 x, .int .i64 (h - y), .int .i64 x, .int .i64 y, .int .i64 (w - x), .int .i64 (h - y)] 30 (0, 0))) ∧ Hid (Below W.heap.size W wr)) (fun i _ => 4 - (intOf i).toNat)
      case atStart => exact ⟨0, by omega, rfl, HSl, HTl, HL0, HBl⟩
      case round =>
        obtain ⟨k, hk, rfl, HA, HT, HL, HB⟩ := hrel
        by_cases hk4 : k < 4
        · have hin := rc_in (w := w) (h := h) ⟨g5, g6⟩ ⟨g7, g8⟩ k
          have q0 : wr.cell? ⟨gl, k * 4, none⟩ = some (.int .i64 (rcx x k)) := by
            rw [World.cell?, HL.out]
            rcases (show k = 0 ∨ k = 1 ∨ k = 2 ∨ k = 3 by omega) with rfl | rfl | rfl | rfl <;> rfl
          have q1 : wr.cell? ⟨gl, k * 4 + 1, none⟩ = some (.int .i64 (rcy y k)) := by
            rw [World.cell?, HL.out]
            rcases (show k = 0 ∨ k = 1 ∨ k = 2 ∨ k = 3 by omega) with rfl | rfl | rfl | rfl <;> rfl
          have q2 : wr.cell? ⟨gl, k * 4 + 2, none⟩ = some (.int .i64 (rcw w x k)) := by
            rw [World.cell?, HL.out]
            rcases (show k = 0 ∨ k = 1 ∨ k = 2 ∨ k = 3 by omega) with rfl | rfl | rfl | rfl <;> rfl
          have q3 : wr.cell? ⟨gl, k * 4 + 3, none⟩ = some (.int .i64 (rch h y k)) := by
            rw [World.cell?, HL.out]
            rcases (show k = 0 ∨ k = 1 ∨ k = 2 ∨ k = 3 by omega) with rfl | rfl | rfl | rfl <;> rfl
          have hdm := HA.out.1.2.2.2
          obtain ⟨p1, p2, p3⟩ := blit_of_part (F := prt w h x y Fa k) hdm hin HA.out.2
          obtain ⟨rx, hrx⟩ : ∃ r, rcx x k = r := ⟨_, rfl⟩
          obtain ⟨ry, hry⟩ : ∃ r, rcy y k = r := ⟨_, rfl⟩
          obtain ⟨rW, hrW⟩ : ∃ r, rcw w x k = r := ⟨_, rfl⟩
          obtain ⟨rH, hrH⟩ : ∃ r, rch h y k = r := ⟨_, rfl⟩
          have hpS : prt w h x y Fa (k + 1) = blitF w (rcx x k) (rcy y k) (rcw w x k) (rch h y k) (prt w h x y Fa k) (partF w (rcx x k) (rcy y k) Fa (rcw w x k).toNat) := rfl
          rw [hrx] at q0
          rw [hry] at q1
          rw [hrW] at q2
          rw [hrH] at q3
          rw [hrx, hry, hrW, hrH] at hin p1 p2 p3 hpS
          rw [← hpS] at p3
          have P1 := Lib.hid p1
          have P2 := Lib.hid p2
          have P3 := Lib.hid p3
          have HIN := Lib.hid hin
          have hlen : (partXs w h rx ry rW rH Fa).length ≤ 1000000000000000 := by
            have := rect_le hdm hin
            rw [Int.mul_comm] at this
            unfold partXs
            rw [if_pos hin, lst_length]; omega
          have Q0 := Lib.hid q0
          clear p1 p2 p3 hpS hrx hry hrW hrH hin hdm
          go_wp2_with fail
          refine (Part_s W.heap.size ga ra w h Fa rx ry rW rH _ HA.out).mono ?_
          rintro e w6 ⟨v, rfl, hv, hb6⟩
          rw [P1.out]
          obtain ⟨A, c, rfl, v1, v2, v3, v4⟩ := RI.full hv
          have hl6 : w6.heap[gl]? = _ := (hb6.block gl (blk_lt HL.out)).trans HL.out
          have HA6 := Lib.hid (HA.out.below hb6)
          have HT6 := Lib.hid (HT.out.below hb6)
          have HB6 := Lib.hid (HB.out.trans (Below.mono hb6 HB.out.size))
          have q0 : w6.cell? ⟨gl, k * 4, none⟩ = some (.int .i64 rx) := by rw [← Q0.out]; exact hb6.cell (p := ⟨gl, _, none⟩) (blk_lt HL.out)
          have q1 : w6.cell? ⟨gl, k * 4 + 1, none⟩ = some (.int .i64 ry) := by rw [← q1]; exact hb6.cell (p := ⟨gl, _, none⟩) (blk_lt HL.out)
          have q2 : w6.cell? ⟨gl, k * 4 + 2, none⟩ = some (.int .i64 rW) := by rw [← q2]; exact hb6.cell (p := ⟨gl, _, none⟩) (blk_lt HL.out)
          have q3 : w6.cell? ⟨gl, k * 4 + 3, none⟩ = some (.int .i64 rH) := by rw [← q3]; exact hb6.cell (p := ⟨gl, _, none⟩) (blk_lt HL.out)
          have hbl := Blit_s W.heap.size gb rb w h (prt w h x y Fa k) rx ry rW rH A (partXs w h rx ry rW rH Fa) c w6 HT6.out v3 hlen v1 v2 (fun ad ha _ => by have := v4 ad ha; have := HT.out.1.lt; omega)
          have HBL := Lib.hid hbl
          have HL6 := Lib.hid hl6
          clear hv v1 v2 v3 v4 hb6 hl6 hbl
          go_wp2_with fail
          refine HBL.out.mono ?_
          rintro e w7 ⟨rfl, hs, hk⟩
          rw [P2.out]
          have HT7 := Lib.hid (hs.ext (fun i _ => P3.out i))
          have HA7 := Lib.hid (HA6.out.keep hk.kept (by omega) (by omega))
          have HL7 := Lib.hid ((hk.block gl (blk_lt HL6.out) (by omega)).trans HL6.out)
          have HB7 := Lib.hid (HB6.out.trans (hk.below HT6.out.1.1.2.1 HB6.out.size))
          clear hs hk q0 q1 q2 q3
          go_wp2_with fail
          go_roundw
          case rel => exact ⟨k + 1, by omega, by go_num, HA7, HT7, HL7, HB7⟩
          case measure => simp [intOf]; omega
        · obtain rfl : k = 4 := by omega
          have HT4 := Lib.hid (HT.out.ext (fun i hi => prt_all HA.out.1.2.2.2 ⟨g5, g6⟩ ⟨g7, g8⟩ i hi))
          obtain ⟨K, hK⟩ : ∃ K : Nat, 40000000 ≤ K := ⟨_, Nat.le_refl _⟩
          go_wp2_with fail
          refine (Image_s W.heap.size ga ra w h Fa _ HA.out).mono ?_
          rintro e w6 ⟨v, rfl, hv, hb6⟩
          obtain ⟨A, c, rfl, v1, v2, v3, v4⟩ := RI.full hv
          have HT6 := Lib.hid (HT4.out.below hb6)
          have HB6 := Lib.hid (HB.out.trans (Below.mono hb6 HB.out.size))
          have V3 := Lib.hid v3
          clear hv hb6 v3 v4
          go_wp2_with fail
          refine (Image_s W.heap.size gb rb w h Fa _ HT6.out).mono ?_
          rintro e w7 ⟨v, rfl, hv, hb7⟩
          obtain ⟨A2, c2, rfl, u1, u2, u3, u4⟩ := RI.full hv
          have V7 := Lib.hid (Kd.C_below V3.out hb7)
          have HB7 := Lib.hid (HB6.out.trans (Below.mono hb7 HB6.out.size))
          have U3 := Lib.hid u3
          have hll : (lst (w * h).toNat Fa).length ≤ 16777216 := by rw [lst_length]; omega
          clear hv hb7 u3 u4
          go_wp2_with fail
          refine (X.miradorref12_SameImage.calls K w h A c (lst (w * h).toNat Fa) w h A2 c2 (lst (w * h).toNat Fa) true _ V7.out v1 U3.out u1 (same_refl K hK w h _ hll)).mono ?_
          rintro e w8 ⟨rfl, hb8⟩
          have HB8 := Lib.hid (HB7.out.trans (Below.mono hb8 HB7.out.size))
          clear hb8
          go_wp2_with fail
          go_ret
          exact ⟨rfl, HB8.out⟩
    · have hb0 : (be == 0) = false := by simpa using h0
      have hb1 : (be != 0) = true := by simpa using h0
      go_wp2_with fail
      go_ret
      exact ⟨rfl, HB5.out⟩
  · go_wp2_with fail
    all_goals (go_ret; exact ⟨rfl, HB.out⟩)
end Go.Proofs.Ytjcibgopebpkiaa.H
