/- ScreenApart: what is handed in, and what is told, is not shared; two screens know nothing of one another. No condition. -/
import Derived.Test.YtjcibgopebpkiaaSCV
namespace Go.Proofs.Ytjcibgopebpkiaa.H
open Go.RowKit Go.Proofs.YtjcibgopebpkiaaW.PrintWords Go.Proofs.YtjcibgopebpkiaaW.PrintLast Go.Proofs.YtjcibgopebpkiaaW.PrintMore Go.Proofs.Ytjcibgopebpkiaa.B Go.Proofs.Ytjcibgopebpkiaa.SCP Go.Proofs.Ytjcibgopebpkiaa.SC
set_option linter.unusedVariables false
set_option linter.unusedSimpArgs false
set_option maxHeartbeats 4000000 in
set_option maxRecDepth 100000 in
theorem ScreenApart_walk (w h : Int) (a : Option Addr) (len cap : Nat) (zs : List Int) (c : Int) (W : World) (hw : (Lit.int .i64 w).wf = true) (hh : (Lit.int .i64 h).wf = true) (hz : (a = none ∧ len = 0 ∧ cap = 0 ∧ zs = []) ∨ ∃ x, a = some x ∧ len ≤ cap ∧ cap ≤ maxLen ∧ zs.length = cap ∧ (∀ i, i < zs.length → W.cell? (x.add i) = some (.int .i64 (zs.getD i 0))) ∧ ∀ n ∈ zs, (Lit.int .i64 n).wf = true) (hsz : len * 8 ≤ 140737488351232) (hc : (Lit.int .i64 c).wf = true) :
    Calls Try.prog 3 #[.int .i64 w, .int .i64 h, .slice a len cap, .int .i64 c] W fun e W' => e = .returned (.bool true) ∧ Below W.heap.size W W' := by
  obtain ⟨w0, w1⟩ := wf64 hw
  obtain ⟨h0, h1⟩ := wf64 hh
  obtain ⟨hpl, hlc, hcm, hp⟩ := ci_of hz
  obtain ⟨i0, hi, hz0, hz1, hz2⟩ := info_parts info_int
  obtain ⟨xs, hxs⟩ : ∃ xs, zs.take len = xs := ⟨_, rfl⟩
  rw [hxs] at hp hpl
  have HP := Lib.hid hp
  have HPL := Lib.hid hpl
  obtain ⟨K, hK⟩ : ∃ K : Nat, 40000000 ≤ K := ⟨_, Nat.le_refl _⟩
  clear hw hh hc hz hp hpl hxs
  by_cases hg : 1 ≤ w ∧ w ≤ 20 ∧ 1 ≤ h ∧ h ≤ 20
  · obtain ⟨g1, g2, g3, g4⟩ := hg
    have harea := area_20 g1 g2 g3 g4
    have e1 : IntKind.i64.wrap (w * h) = w * h := by rw [IntKind.wrap_i64]; omega
    go_enter Try.func3, Try.ntmps3
    go_wp2_with fail
    refine (works_c _).mono ?_
    rintro e W1 ⟨rfl, hb⟩
    have HB := Lib.hid hb
    clear hb
    by_cases hl : (len : Int) = w * h
    · have hlb1 : ((len : Int) == w * h) = true := by simpa using hl
      have hlb2 : ((len : Int) != w * h) = false := by simpa using hl
      have HL := Lib.hid hl
      clear hl
      go_wp2_with fail
      refine (New_s W.heap.size w h _ HB.out.size (by omega)).mono ?_
      rintro e W2 ⟨ga, ra, rfl, hs, hga, hra, hb⟩
      have HS := Lib.hid hs
      have HB2 := Lib.hid (HB.out.trans (Below.mono hb HB.out.size))
      clear hs hb
      go_wp2_with fail
      refine (New_s W.heap.size w h _ HB2.out.size (by omega)).mono ?_
      rintro e W3 ⟨gb, rb, rfl, hs, hgb, hrb, hb⟩
      have HT := Lib.hid hs
      have HS2 := Lib.hid (HS.out.below hb)
      have HB3 := Lib.hid (HB2.out.trans (Below.mono hb HB2.out.size))
      have hlt := HS.out.1.lt
      have hlt2 := HT.out.1.lt
      have hap : ga ≠ gb ∧ ga ≠ rb ∧ ra ≠ gb ∧ ra ≠ rb := by omega
      have hlen : 1 ≤ len ∧ len ≤ 400 := by have := HL.out; omega
      clear hs hb
      obtain ⟨ad, had⟩ : ∃ ad, a = some ad := by
        obtain ⟨ad, h, _⟩ := HP.out.pix 0 (by rw [HPL.out]; omega)
        exact ⟨ad, h⟩
      subst had
      have HPX := Lib.hid (show CI W3 (some ad) (xs) from Kd.C_below HP.out HB3.out)
      go_wp2_with (at_builtin; refine wpList_append_own _ rfl _ _ 22 rfl W3.heap.size 3 i0 (.int .i64 0) 1 8 Try.underlying22 hi hz0 hz1 hz2 rfl (by decide) _ _ _ rfl (World.ownsRow_nil _ _ _ _) ad len cap (xs.map (Value.int .i64)) rfl ?c1 ?c2 ?c3 ?c4 ?c5 ?c6 ?_)
      case c1 => rw [List.length_map, HPL.out]; omega
      case c2 =>
        intro j u hj
        have hjl : j < xs.length := by
          have := (List.getElem?_eq_some_iff.1 hj).1
          simpa using this
        obtain ⟨ad', ha', hc'⟩ := HPX.out.pix j hjl
        obtain rfl := Option.some.inj ha'
        rw [hc', ← hj, List.getElem?_map, List.getElem?_eq_getElem hjl]
        simp [pF, List.getD_eq_getElem?_getD, List.getElem?_eq_getElem hjl]
      case c3 => intro u hu; obtain ⟨a, _, rfl⟩ := List.mem_map.1 hu; rfl
      case c4 => unfold maxLen; omega
      case c5 => omega
      case c6 => exact Nat.le_refl _
      intro v W4 hown hgrow _
      have hd4 : 1 ≤ w ∧ w ≤ 4096 ∧ 1 ≤ h ∧ h ≤ 4096 := by omega
      have hxl := HPL.out
      have hv0 : RI W4 W3.heap.size (fun _ => True) v xs := Kd.R_of_own (by rw [hxl]; exact hown) (fun _ _ => trivial)
      obtain ⟨gm, cm, rfl, v1, v2, v3, v4, v5, v6, u, v7⟩ := RI.form hv0 (by omega)
      have hb4 : Below W3.heap.size W3 W4 := (Below.refl _ _).grown hgrow (Nat.le_refl _) (fun k h => by cases h)
      have HB4 := Lib.hid (HB3.out.trans (Below.mono hb4 HB3.out.size))
      have HS4 := Lib.hid (HS2.out.below hb4)
      have HT4 := Lib.hid (HT.out.below hb4)
      have HV := Lib.hid v3
      have hsz3 := hb4.size
      have hsz0 := HB.out.size
      have hsz1 := HB2.out.size
      have hsz2 := HB3.out.size
      clear hown hgrow hv0 hb4 v3 HPX HS2 HT HS
      go_wp2_with fail
      refine (X.screen_Whole.calls w h 0 0 w h _ rfl).mono ?_
      rintro e W5 ⟨rfl, hb⟩
      have HS5 := Lib.hid (HS4.out.below hb)
      have HT5 := Lib.hid (HT4.out.below hb)
      have HB5 := Lib.hid (HB4.out.trans (Below.mono hb HB4.out.size))
      have HV5 := Lib.hid (Kd.C_below HV.out hb)
      have f5 : W5.frozen? ⟨gm, 0, none⟩ = false := by rw [hb.frozen (p := ⟨gm, 0, none⟩) v5]; exact v6
      have k5 : W5.cell? ⟨gm, 0, none⟩ = some u := by rw [hb.cell (p := ⟨gm, 0, none⟩) v5]; exact v7
      have hsz5 := hb.size
      clear hb v6 v7
      rw [hxl] at v1
      go_wp2_with fail
      have hbl := Blit_s W.heap.size ga ra w h (fun _ => 0) 0 0 w h (some ⟨gm, 0, none⟩) xs cm W5 HS5.out HV5.out (by omega) (by omega) v2 (fun ad ha _ => by obtain rfl := Option.some.inj ha; show gm ≠ ra; omega)
      try rw [hxl] at hbl
      try rw [hxl]
      refine hbl.mono ?_
      rintro e W6 ⟨rfl, hs, hk⟩
      obtain ⟨be, hbe⟩ : ∃ be, blitE w h 0 0 w h xs = be := ⟨_, rfl⟩
      rw [hbe]
      have HB6 := Lib.hid (HB5.out.trans (hk.below HS5.out.1.1.2.1 HB5.out.size))
      have HT6 := Lib.hid (HT5.out.keep hk.kept (by omega) (by omega))
      have f6 : W6.frozen? ⟨gm, 0, none⟩ = false := by
        rw [World.frozen?, hk.block gm (by omega) (by omega)]; exact f5
      have k6 : W6.cell? ⟨gm, 0, none⟩ = some u := by
        rw [World.cell?, hk.block gm (by omega) (by omega)]; exact k5
      have hsz6 := hk.size
      by_cases h0 : be = 0
      · subst h0
        have hok := blit_whole_ok (F := fun _ => 0) hd4 hbe
        have HS6 := Lib.hid (hs.ext hok.2)
        have hN : (w * h).toNat = len := by have := HL.out; omega
        have hcp : lst (w * h).toNat (pF xs) = xs := by rw [hN, ← hxl]; exact lst_pF xs
        have HCP := Lib.hid hcp
        have HBE := Lib.hid hbe
        clear hbl hs hk hbe hok hcp f5 k5 hN
        go_wp2_with fail
        have HS7 := Lib.hid (HS6.out.set (k := gm) (by omega) (by omega) 0 (.int .i64 7))
        have HT7 := Lib.hid (HT6.out.set (k := gm) (by omega) (by omega) 0 (.int .i64 7))
        have HB7 := Lib.hid (below_put HB6.out (k := gm) (by omega) 0 (.int .i64 7))
        refine (Image_s W.heap.size ga ra w h _ _ HS7.out).mono ?_
        rintro e W8 ⟨vp, rfl, hr, hb⟩
        rw [HCP.out] at hr
        obtain ⟨gp, cp, rfl, p1, p2, p3, p4, p5, p6, up, p7⟩ := RI.form hr (by omega)
        have HS8 := Lib.hid (HS7.out.below hb)
        have HT8 := Lib.hid (HT7.out.below hb)
        have HB8 := Lib.hid (HB7.out.trans (Below.mono hb HB7.out.size))
        have hq4 : W6.heap.size ≤ gp := by simpa using p4
        have hsz8 : W6.heap.size ≤ W8.heap.size := by simpa using hb.size
        rw [hxl] at p1
        rw [hxl]
        clear hr hb p3 p4 HS7 HT7 f6 k6
        go_wp2_with fail
        have hbx := heap_alloc_new W8 (.cells #[.int .i64 w, .int .i64 h, .slice (some ⟨gp, 0, none⟩) len cp] 33)
        have hb9 := below_alloc (Below.refl W8.heap.size W8) (.cells #[.int .i64 w, .int .i64 h, .slice (some ⟨gp, 0, none⟩) len cp] 33)
        obtain ⟨W9, hW9⟩ : ∃ W9, W8.alloc (.cells #[.int .i64 w, .int .i64 h, .slice (some ⟨gp, 0, none⟩) len cp] 33) = W9 := ⟨_, rfl⟩
        obtain ⟨gx, hgx⟩ : ∃ gx, W8.heap.size = gx := ⟨_, rfl⟩
        rw [hW9] at hbx hb9
        have hsz9 : W8.heap.size < W9.heap.size := blk_lt hbx
        rw [hgx] at hbx
        have hgx2 : gx = W8.heap.size := hgx.symm
        have HS9 := Lib.hid (HS8.out.below hb9)
        have HT9 := Lib.hid (HT8.out.below hb9)
        have HB9 := Lib.hid (HB8.out.trans (Below.mono hb9 HB8.out.size))
        have HX9 := Lib.hid hbx
        have p6 : W9.frozen? ⟨gp, 0, none⟩ = false := by rw [hb9.frozen (p := ⟨gp, 0, none⟩) p5]; exact p6
        have p7 : W9.cell? ⟨gp, 0, none⟩ = some up := by rw [hb9.cell (p := ⟨gp, 0, none⟩) p5]; exact p7
        rw [hW9]
        rw [hgx]
        have hsz9 : gx < W9.heap.size := by omega
        have hle9 : W8.heap.size ≤ gx := by omega
        clear hW9 hbx hb9 HS8 HT8 hgx hgx2
        refine (X.screen_Whole.calls w h 0 0 w h _ rfl).mono ?_
        rintro e W10 ⟨rfl, hb⟩
        have HS10 := Lib.hid (HS9.out.below hb)
        have HT10 := Lib.hid (HT9.out.below hb)
        have HB10 := Lib.hid (HB9.out.trans (Below.mono hb HB9.out.size))
        have HX10 := Lib.hid ((hb.block gx hsz9).trans HX9.out)
        have p6 : W10.frozen? ⟨gp, 0, none⟩ = false := by rw [hb.frozen (p := ⟨gp, 0, none⟩) (by show gp < _; omega)]; exact p6
        have p7 : W10.cell? ⟨gp, 0, none⟩ = some up := by rw [hb.cell (p := ⟨gp, 0, none⟩) (by show gp < _; omega)]; exact p7
        have hsz10 := hb.size
        clear hb HS9 HT9
        go_wp2_with fail
        refine (Part_s W.heap.size ga ra w h _ 0 0 w h _ HS10.out).mono ?_
        rintro e W11 ⟨vq, rfl, hr, hb⟩
        rw [(part_whole hd4).1, HCP.out] at hr
        rw [(part_whole (F := fun _ => 0) hd4).2]
        obtain ⟨gq, cq, rfl, q1, q2, q3, q4, q5, q6, uq, q7⟩ := RI.form hr (by omega)
        rw [hxl] at q1
        rw [hxl]
        have HS11 := Lib.hid (HS10.out.below hb)
        have HT11 := Lib.hid (HT10.out.below hb)
        have HB11 := Lib.hid (HB10.out.trans (Below.mono hb HB10.out.size))
        have hx11 := (hb.block gx (by omega)).trans HX10.out
        have HX11 := Lib.hid hx11
        have m2 : W11.cell? ⟨gx, 2, none⟩ = some (.slice (some ⟨gp, 0, none⟩) len cp) := by rw [World.cell?, hx11]; rfl
        have p6 : W11.frozen? ⟨gp, 0, none⟩ = false := by rw [hb.frozen (p := ⟨gp, 0, none⟩) (by show gp < _; omega)]; exact p6
        have p7 : W11.cell? ⟨gp, 0, none⟩ = some up := by rw [hb.cell (p := ⟨gp, 0, none⟩) (by show gp < _; omega)]; exact p7
        have hsz11 := hb.size
        have hne1 : gp ≠ gx := by omega
        have hne2 : gq ≠ gx := by omega
        have hne3 : gq ≠ gp := by omega
        have hne4 : gp ≠ gq := by omega
        clear hr hb hx11 q3 HS10 HT10
        go_wp2_with fail
        have HS12 := Lib.hid ((HS11.out.set (k := gp) (by omega) (by omega) 0 (.int .i64 9)).set (k := gq) (by omega) (by omega) 0 (.int .i64 11))
        have HT12 := Lib.hid ((HT11.out.set (k := gp) (by omega) (by omega) 0 (.int .i64 9)).set (k := gq) (by omega) (by omega) 0 (.int .i64 11))
        have HB12 := Lib.hid (below_put (below_put HB11.out (k := gp) (by omega) 0 (.int .i64 9)) (k := gq) (by omega) 0 (.int .i64 11))
        refine (Image_s W.heap.size ga ra w h _ _ HS12.out).mono ?_
        rintro e W13 ⟨vr, rfl, hr, hb⟩
        rw [HCP.out] at hr
        obtain ⟨A13, c13, rfl, r1, r2, r3, r4⟩ := RI.full hr
        have HS13 := Lib.hid (HS12.out.below hb)
        have HT13 := Lib.hid (HT12.out.below hb)
        have HB13 := Lib.hid (HB12.out.trans (Below.mono hb HB12.out.size))
        have R3 := Lib.hid r3
        have HP13 := Lib.hid (Kd.C_below HP.out HB13.out)
        have hrow := fun W' (h1 : CI W' A13 xs) (h2 : CI W' (some ad) xs) => X.miradorref12_Row.calls K A13 c13 xs (some ad) cap xs true W' h1 r1 h2 (by omega) (row_refl K hK xs (by omega))
        rw [hxl] at hrow ⊢
        have HROW := Lib.hid (hrow _ R3.out HP13.out)
        clear hr hb r3 r4 hrow p6 p7 q6 q7 m2 HS12 HT12
        have hfl : ∀ w_ : World, (Instr.field 33 (.agg #[.int .i64 w, .int .i64 h, .slice A13 len c13]) 2).run Try.prog w_ = .ok (.slice A13 len c13) w_ := fun _ => by kernel_rfl
        go_wp2_with fail
        refine HROW.out.mono ?_
        rintro e _ ⟨rfl, ⟨nd, rfl⟩⟩
        clear HROW
        go_wp2_with fail
        refine (Image_s W.heap.size gb rb w h _ _ (show Scr W.heap.size gb rb w h (fun _ => 0) (W13.drewN nd) from ⟨HT13.out.1.drewN nd, HT13.out.2⟩)).mono ?_
        rintro e W14 ⟨vs, rfl, hr, hb⟩
        obtain ⟨A14, c14, rfl, s1, s2, s3, s4⟩ := RI.full hr
        have hb14 : Below W13.heap.size W13 W14 := (pw_below_drewN (Below.refl _ _) nd).trans (Below.mono hb (Nat.le_refl _))
        have HS14 := Lib.hid (HS13.out.below hb14)
        have HB14 := Lib.hid (HB13.out.trans (Below.mono hb14 HB13.out.size))
        have S3 := Lib.hid s3
        clear hr hb hb14 s3 s4
        go_wp2_with fail
        refine (X.miradorref14_Black.calls K w h w h (lst (w * h).toNat (fun _ => 0)) _ (black_f K hK w h hd4)).mono ?_
        rintro e W15 ⟨vt, rfl, hr, hb⟩
        obtain ⟨A15, c15, rfl, t1, t2, t3, t4⟩ := RI.full hr
        have S15 := Lib.hid (Kd.C_below S3.out hb)
        have HS15 := Lib.hid (HS14.out.below hb)
        have HB15 := Lib.hid (HB14.out.trans (Below.mono hb HB14.out.size))
        have T3 := Lib.hid t3
        clear hr hb t3 t4
        have hll : (lst (w * h).toNat (fun _ => (0 : Int))).length ≤ 16777216 := by rw [lst_length]; omega
        go_wp2_with fail
        refine (X.miradorref12_SameImage.calls K w h A14 c14 (lst (w * h).toNat (fun _ => 0)) w h A15 c15 (lst (w * h).toNat (fun _ => 0)) true _ S15.out s1 T3.out t1 (same_refl K hK w h _ hll)).mono ?_
        rintro e W16 ⟨rfl, hb⟩
        have HS16 := Lib.hid (HS15.out.below hb)
        have HB16 := Lib.hid (HB15.out.trans (Below.mono hb HB15.out.size))
        have HQ := Lib.hid (fun (q : Nat) => at_q (x := 0) (y := 0) HS16.out q)
        have hz0 : W16.cell? (ad.add 0) = some (.int .i64 (pF xs 0)) := by
          obtain ⟨ad', ha', hc'⟩ := CI.pix (Kd.C_below HP.out HB16.out) 0 (by omega)
          obtain rfl := Option.some.inj ha'
          exact hc'
        have hz1 : W16.cell? ad = some (.int .i64 (pF xs 0)) := by
          rw [← hz0, show ad.add 0 = ad from by unfold Addr.add; simp]
        have hat : atF w h (pF xs) 0 0 = pF xs 0 := by
          unfold atF
          rw [if_neg (by omega)]
          congr 1; simp
        rw [hat] at HQ
        clear hb hat
        go_wp2_with fail
        go_quiet ((go_at_call 17; exact HQ.out _))
        go_wp2_with fail
        go_ret
        exact ⟨rfl, pw_below_drewN HB16.out _⟩
      · have hb0 : (be == 0) = false := by simpa using h0
        have hb1 : (be != 0) = true := by simpa using h0
        clear hbl hs hk hbe h0
        go_wp2_with fail
        go_ret
        exact ⟨rfl, HB6.out⟩
    · have hlb1 : ((len : Int) == w * h) = false := by simpa using hl
      have hlb2 : ((len : Int) != w * h) = true := by simpa using hl
      clear hl
      go_wp2_with fail
      go_ret
      exact ⟨rfl, HB.out⟩
  · go_enter Try.func3, Try.ntmps3
    go_wp2_with fail
    refine (works_c _).mono ?_
    rintro e W1 ⟨rfl, hb⟩
    have HB := Lib.hid hb
    clear hb
    go_wp2_with fail
    all_goals (go_ret; exact ⟨rfl, HB.out⟩)
end Go.Proofs.Ytjcibgopebpkiaa.H
