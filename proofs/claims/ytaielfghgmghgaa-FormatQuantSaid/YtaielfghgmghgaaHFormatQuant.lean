/- FormatQuant: what is left of a colour, twice, is as once; a value of parts up to 255 leads back to itself; with 255 or more for all parts nothing is lost. No condition. -/
-- OPEN 0 Go.Proofs.Ytaielfghgmghgaa.RC.open_format fa fb fc fd fe ff fg fh fi fj : ga gb ge gf gg gh gi gj
import Derived.Test.YtaielfghgmghgaaFM6
import Derived.Test.YtaielfghgmghgaaRF
import Derived.Deep.RegionHeld3
import Derived.Deep.DeepCutAuto
import Derived.Deep.QuietTactic
import Derived.BigQuiet
namespace Go.Proofs.Ytaielfghgmghgaa.H
open Go.RowKit Go.Proofs.YtaielfghgmghgaaW.PrintWords Go.Proofs.YtaielfghgmghgaaW.PrintLast Go.Proofs.YtaielfghgmghgaaW.PrintMore Go.Proofs.Ytaielfghgmghgaa.B Go.Proofs.Ytaielfghgmghgaa.F
set_option linter.unusedVariables false
set_option linter.unusedSimpArgs false
theorem works_f : X.miradorlaw13_works.f = some true := by decide +kernel
set_option maxHeartbeats 4000000 in
set_option maxRecDepth 100000 in
theorem FormatQuant_walk (n d : Int) (bg tr : Bool) (m1 m2 m3 s1 s2 s3 c u : Int) (W : World) (h0 : (Lit.int .i64 n).wf = true) (h1 : (Lit.int .i64 d).wf = true) (h4 : (Lit.int .i64 m1).wf = true) (h5 : (Lit.int .i64 m2).wf = true) (h6 : (Lit.int .i64 m3).wf = true) (h7 : (Lit.int .i64 s1).wf = true) (h8 : (Lit.int .i64 s2).wf = true) (h9 : (Lit.int .i64 s3).wf = true) (hc : (Lit.int .i64 c).wf = true) (hu : (Lit.int .i64 u).wf = true) :
    Calls Try.prog 4 #[.agg #[.int .i64 n, .int .i64 d, .bool bg, .bool tr, .int .i64 m1, .int .i64 m2, .int .i64 m3, .int .i64 s1, .int .i64 s2, .int .i64 s3], .int .i64 c, .int .i64 u] W fun e W' => e = .returned (.bool true) ∧ Below W.heap.size W W' := by
  obtain ⟨b, h1', h2', h3'⟩ := valid_f 40 (by omega) n d bg tr m1 m2 m3 s1 s2 s3
  have HVF := Lib.hid h1'
  have HBX := Lib.hid (below_alloc (Below.refl W.heap.size W) (.cells #[.int .i64 n, .int .i64 d, .bool bg, .bool tr, .int .i64 m1, .int .i64 m2, .int .i64 m3, .int .i64 s1, .int .i64 s2, .int .i64 s3] 23))
  have HGX := Lib.hid (heap_alloc_new W (.cells #[.int .i64 n, .int .i64 d, .bool bg, .bool tr, .int .i64 m1, .int .i64 m2, .int .i64 m3, .int .i64 s1, .int .i64 s2, .int .i64 s3] 23))
  have HI := Lib.hid h3'
  clear h0 h1 h4 h5 h6 h7 h8 h9 hc hu h1' h2' h3'
  go_enter Try.func4, Try.ntmps4
  go_wp2_with fail
  refine (X.miradorlaw13_works.calls true _ works_f).mono ?_
  rintro e w1 ⟨rfl, hb⟩
  have HX1 := Lib.hid ((hb.block W.heap.size (by simp)).trans HGX.out)
  have HB1 := Lib.hid (HBX.out.trans (Below.mono hb (by simp)))
  clear hb
  have y0 : w1.cell? ⟨W.heap.size, 0, none⟩ = some (.int .i64 n) := by rw [World.cell?, HX1.out]; rfl
  have y1 : w1.cell? ⟨W.heap.size, 1, none⟩ = some (.int .i64 d) := by rw [World.cell?, HX1.out]; rfl
  have y2 : w1.cell? ⟨W.heap.size, 2, none⟩ = some (.bool bg) := by rw [World.cell?, HX1.out]; rfl
  have y3 : w1.cell? ⟨W.heap.size, 3, none⟩ = some (.bool tr) := by rw [World.cell?, HX1.out]; rfl
  have y4 : w1.cell? ⟨W.heap.size, 4, none⟩ = some (.int .i64 m1) := by rw [World.cell?, HX1.out]; rfl
  have y5 : w1.cell? ⟨W.heap.size, 5, none⟩ = some (.int .i64 m2) := by rw [World.cell?, HX1.out]; rfl
  have y6 : w1.cell? ⟨W.heap.size, 6, none⟩ = some (.int .i64 m3) := by rw [World.cell?, HX1.out]; rfl
  have y7 : w1.cell? ⟨W.heap.size, 7, none⟩ = some (.int .i64 s1) := by rw [World.cell?, HX1.out]; rfl
  have y8 : w1.cell? ⟨W.heap.size, 8, none⟩ = some (.int .i64 s2) := by rw [World.cell?, HX1.out]; rfl
  have y9 : w1.cell? ⟨W.heap.size, 9, none⟩ = some (.int .i64 s3) := by rw [World.cell?, HX1.out]; rfl
  go_wp2_with fail
  refine (X.format_Valid.calls n d bg tr m1 m2 m3 s1 s2 s3 b _ HVF.out).mono ?_
  rintro e w2 ⟨rfl, hb⟩
  have HX2 := Lib.hid ((hb.block W.heap.size (blk_lt HX1.out)).trans HX1.out)
  have HB2 := Lib.hid (HB1.out.trans (Below.mono hb HB1.out.size))
  clear hb y0 y1 y2 y3 y4 y5 y6 y7 y8 y9
  have y0 : w2.cell? ⟨W.heap.size, 0, none⟩ = some (.int .i64 n) := by rw [World.cell?, HX2.out]; rfl
  have y1 : w2.cell? ⟨W.heap.size, 1, none⟩ = some (.int .i64 d) := by rw [World.cell?, HX2.out]; rfl
  have y2 : w2.cell? ⟨W.heap.size, 2, none⟩ = some (.bool bg) := by rw [World.cell?, HX2.out]; rfl
  have y3 : w2.cell? ⟨W.heap.size, 3, none⟩ = some (.bool tr) := by rw [World.cell?, HX2.out]; rfl
  have y4 : w2.cell? ⟨W.heap.size, 4, none⟩ = some (.int .i64 m1) := by rw [World.cell?, HX2.out]; rfl
  have y5 : w2.cell? ⟨W.heap.size, 5, none⟩ = some (.int .i64 m2) := by rw [World.cell?, HX2.out]; rfl
  have y6 : w2.cell? ⟨W.heap.size, 6, none⟩ = some (.int .i64 m3) := by rw [World.cell?, HX2.out]; rfl
  have y7 : w2.cell? ⟨W.heap.size, 7, none⟩ = some (.int .i64 s1) := by rw [World.cell?, HX2.out]; rfl
  have y8 : w2.cell? ⟨W.heap.size, 8, none⟩ = some (.int .i64 s2) := by rw [World.cell?, HX2.out]; rfl
  have y9 : w2.cell? ⟨W.heap.size, 9, none⟩ = some (.int .i64 s3) := by rw [World.cell?, HX2.out]; rfl
  cases b with
  | false =>
    go_wp2_with fail
    go_ret
    exact ⟨rfl, HB2.out⟩
  | true =>
    have hv := HI.out.1 (by first | rfl | trivial)
    have HV := Lib.hid hv
    have hn8 := hv.bits
    obtain ⟨_, _, _, z1, z1'⟩ := mkN_bd (n := n) (by omega) hv.p1
    obtain ⟨_, _, _, z2, z2'⟩ := mkN_bd (n := n) (by omega) hv.p2
    obtain ⟨_, _, _, z3, z3'⟩ := mkN_bd (n := n) (by omega) hv.p3
    have b1 := okP_bd hv.p1
    have b2 := okP_bd hv.p2
    have b3 := okP_bd hv.p3
    obtain ⟨c0, hc0⟩ : ∃ c0, Go.bits .and .i64 c 16777215 = c0 := ⟨_, rfl⟩
    have hc0' : c0 = c % 16777216 := by rw [← hc0, and24]
    have hcb : 0 ≤ c0 ∧ c0 < 16777216 := by omega
    obtain ⟨q, hq⟩ : ∃ q, qI m1 m2 m3 c0 = q := ⟨_, rfl⟩
    have hqb : 0 ≤ q ∧ q ≤ 16777215 := by rw [← hq]; exact qI_bd b1 b2 b3 c0
    have EQ := Lib.hid (show X.format_Quant.f n d bg tr m1 m2 m3 s1 s2 s3 c0 = some q from by rw [← hq]; exact (quant_f hv bg c0 HVF.out).1)
    have EQ1 := Lib.hid (show X.format_Quant.f n d bg tr m1 m2 m3 s1 s2 s3 q = some q from by rw [(quant_f hv bg q HVF.out).1, ← hq, qI_twice hv])
    have EQ2 := Lib.hid (show X.format_Quant.f n d bg tr m1 m2 m3 s1 s2 s3 c = some q from by rw [(quant_f hv bg c HVF.out).1, qI_low, ← hc0', hq])
    obtain ⟨vv, hvv⟩ : ∃ vv : Int, ((plN (cp c0 0) m1 s1 + plN (cp c0 1) m2 s2 + plN (cp c0 2) m3 s3 : Nat) : Int) = vv := ⟨_, rfl⟩
    have EV := Lib.hid (show X.format_Value.f n d bg tr m1 m2 m3 s1 s2 s3 c0 = some vv from by rw [← hvv]; exact value_f hv bg c0 HVF.out)
    have EC := Lib.hid (show X.format_Colour.f n d bg tr m1 m2 m3 s1 s2 s3 vv = some q from by rw [← hvv, ← hq]; exact (quant_f hv bg c0 HVF.out).2)
    have HL := Lib.hid (show 255 ≤ m1 → 255 ≤ m2 → 255 ≤ m3 → q = c0 from fun a1 a2 a3 => by rw [← hq]; exact qI_large hv a1 a2 a3 c0 hcb)
    obtain ⟨qb0, qb1⟩ := hqb
    have qd0 : decide (q < 0) = false := decide_eq_false (by omega)
    have qd1 : decide (16777215 < q) = false := decide_eq_false (by omega)
    have qd2 : decide (q > 16777215) = false := decide_eq_false (by omega)
    clear hc0' hq hvv hv hn8
    go_wp2_with fail
    refine (X.format_Quant.calls n d bg tr m1 m2 m3 s1 s2 s3 c0 q _ EQ.out).mono ?_
    rintro e w3 ⟨rfl, hb⟩
    have HX3 := Lib.hid ((hb.block W.heap.size (blk_lt HX2.out)).trans HX2.out)
    have HB3 := Lib.hid (HB2.out.trans (Below.mono hb HB2.out.size))
    clear hb hc0 y0 y1 y2 y3 y4 y5 y6 y7 y8 y9
    have y0 : w3.cell? ⟨W.heap.size, 0, none⟩ = some (.int .i64 n) := by rw [World.cell?, HX3.out]; rfl
    have y1 : w3.cell? ⟨W.heap.size, 1, none⟩ = some (.int .i64 d) := by rw [World.cell?, HX3.out]; rfl
    have y2 : w3.cell? ⟨W.heap.size, 2, none⟩ = some (.bool bg) := by rw [World.cell?, HX3.out]; rfl
    have y3 : w3.cell? ⟨W.heap.size, 3, none⟩ = some (.bool tr) := by rw [World.cell?, HX3.out]; rfl
    have y4 : w3.cell? ⟨W.heap.size, 4, none⟩ = some (.int .i64 m1) := by rw [World.cell?, HX3.out]; rfl
    have y5 : w3.cell? ⟨W.heap.size, 5, none⟩ = some (.int .i64 m2) := by rw [World.cell?, HX3.out]; rfl
    have y6 : w3.cell? ⟨W.heap.size, 6, none⟩ = some (.int .i64 m3) := by rw [World.cell?, HX3.out]; rfl
    have y7 : w3.cell? ⟨W.heap.size, 7, none⟩ = some (.int .i64 s1) := by rw [World.cell?, HX3.out]; rfl
    have y8 : w3.cell? ⟨W.heap.size, 8, none⟩ = some (.int .i64 s2) := by rw [World.cell?, HX3.out]; rfl
    have y9 : w3.cell? ⟨W.heap.size, 9, none⟩ = some (.int .i64 s3) := by rw [World.cell?, HX3.out]; rfl
    go_upto_region 8 with (fail)
    go_cut [51] (fun s51 wx => s51 = .bool false ∧ Hid (wx.heap[W.heap.size]? = some (.cells #[.int .i64 n, .int .i64 d, .bool bg, .bool tr, .int .i64 m1, .int .i64 m2, .int .i64 m3, .int .i64 s1, .int .i64 s2, .int .i64 s3] 23 (0, 0))) ∧ Hid (Below W.heap.size W wx))
    case first =>
      go_region_held3 (fun w' => w'.cell? ⟨W.heap.size, 0, none⟩ = some (.int .i64 n) ∧ w'.cell? ⟨W.heap.size, 1, none⟩ = some (.int .i64 d) ∧ w'.cell? ⟨W.heap.size, 2, none⟩ = some (.bool bg) ∧ w'.cell? ⟨W.heap.size, 3, none⟩ = some (.bool tr) ∧ w'.cell? ⟨W.heap.size, 4, none⟩ = some (.int .i64 m1) ∧ w'.cell? ⟨W.heap.size, 5, none⟩ = some (.int .i64 m2) ∧ w'.cell? ⟨W.heap.size, 6, none⟩ = some (.int .i64 m3) ∧ w'.cell? ⟨W.heap.size, 7, none⟩ = some (.int .i64 s1) ∧ w'.cell? ⟨W.heap.size, 8, none⟩ = some (.int .i64 s2) ∧ w'.cell? ⟨W.heap.size, 9, none⟩ = some (.int .i64 s3)) (go_keep) (first
        | (go_at_call 17; (with_reducible refine (X.format_Quant.calls n d bg tr m1 m2 m3 s1 s2 s3 q q _ EQ1.out).mono ?_); rintro e w4 ⟨rfl, hb⟩; have hx : w4.heap[W.heap.size]? = some (.cells #[.int .i64 n, .int .i64 d, .bool bg, .bool tr, .int .i64 m1, .int .i64 m2, .int .i64 m3, .int .i64 s1, .int .i64 s2, .int .i64 s3] 23 (0, 0)) := (hb.block W.heap.size (blk_lt HX3.out)).trans HX3.out; have z4_0 : w4.cell? ⟨W.heap.size, 0, none⟩ = some (.int .i64 n) := (by rw [World.cell?, hx]; rfl); have z4_1 : w4.cell? ⟨W.heap.size, 1, none⟩ = some (.int .i64 d) := (by rw [World.cell?, hx]; rfl); have z4_2 : w4.cell? ⟨W.heap.size, 2, none⟩ = some (.bool bg) := (by rw [World.cell?, hx]; rfl); have z4_3 : w4.cell? ⟨W.heap.size, 3, none⟩ = some (.bool tr) := (by rw [World.cell?, hx]; rfl); have z4_4 : w4.cell? ⟨W.heap.size, 4, none⟩ = some (.int .i64 m1) := (by rw [World.cell?, hx]; rfl); have z4_5 : w4.cell? ⟨W.heap.size, 5, none⟩ = some (.int .i64 m2) := (by rw [World.cell?, hx]; rfl); have z4_6 : w4.cell? ⟨W.heap.size, 6, none⟩ = some (.int .i64 m3) := (by rw [World.cell?, hx]; rfl); have z4_7 : w4.cell? ⟨W.heap.size, 7, none⟩ = some (.int .i64 s1) := (by rw [World.cell?, hx]; rfl); have z4_8 : w4.cell? ⟨W.heap.size, 8, none⟩ = some (.int .i64 s2) := (by rw [World.cell?, hx]; rfl); have z4_9 : w4.cell? ⟨W.heap.size, 9, none⟩ = some (.int .i64 s3) := (by rw [World.cell?, hx]; rfl); have HX4 := Lib.hid hx; have HB4 := Lib.hid (show Below W.heap.size W w4 from by first | exact HB3.out.trans (Below.mono hb HB3.out.size) | exact (Below.drew HB3.out).trans (Below.mono hb HB3.out.size)); clear hb hx)
        | (go_at_call 17; (with_reducible refine (X.format_Quant.calls n d bg tr m1 m2 m3 s1 s2 s3 c q _ EQ2.out).mono ?_); rintro e w5 ⟨rfl, hb⟩; have hx : w5.heap[W.heap.size]? = some (.cells #[.int .i64 n, .int .i64 d, .bool bg, .bool tr, .int .i64 m1, .int .i64 m2, .int .i64 m3, .int .i64 s1, .int .i64 s2, .int .i64 s3] 23 (0, 0)) := (hb.block W.heap.size (blk_lt HX4.out)).trans HX4.out; have z5_0 : w5.cell? ⟨W.heap.size, 0, none⟩ = some (.int .i64 n) := (by rw [World.cell?, hx]; rfl); have z5_1 : w5.cell? ⟨W.heap.size, 1, none⟩ = some (.int .i64 d) := (by rw [World.cell?, hx]; rfl); have z5_2 : w5.cell? ⟨W.heap.size, 2, none⟩ = some (.bool bg) := (by rw [World.cell?, hx]; rfl); have z5_3 : w5.cell? ⟨W.heap.size, 3, none⟩ = some (.bool tr) := (by rw [World.cell?, hx]; rfl); have z5_4 : w5.cell? ⟨W.heap.size, 4, none⟩ = some (.int .i64 m1) := (by rw [World.cell?, hx]; rfl); have z5_5 : w5.cell? ⟨W.heap.size, 5, none⟩ = some (.int .i64 m2) := (by rw [World.cell?, hx]; rfl); have z5_6 : w5.cell? ⟨W.heap.size, 6, none⟩ = some (.int .i64 m3) := (by rw [World.cell?, hx]; rfl); have z5_7 : w5.cell? ⟨W.heap.size, 7, none⟩ = some (.int .i64 s1) := (by rw [World.cell?, hx]; rfl); have z5_8 : w5.cell? ⟨W.heap.size, 8, none⟩ = some (.int .i64 s2) := (by rw [World.cell?, hx]; rfl); have z5_9 : w5.cell? ⟨W.heap.size, 9, none⟩ = some (.int .i64 s3) := (by rw [World.cell?, hx]; rfl); have HX5 := Lib.hid hx; have HB5 := Lib.hid (show Below W.heap.size W w5 from by first | exact HB4.out.trans (Below.mono hb HB4.out.size) | exact (Below.drew HB4.out).trans (Below.mono hb HB4.out.size)); clear hb hx)
        | (go_at_call 19; (with_reducible refine (X.format_Value.calls n d bg tr m1 m2 m3 s1 s2 s3 c0 vv _ EV.out).mono ?_); rintro e w6 ⟨rfl, hb⟩; have hx : w6.heap[W.heap.size]? = some (.cells #[.int .i64 n, .int .i64 d, .bool bg, .bool tr, .int .i64 m1, .int .i64 m2, .int .i64 m3, .int .i64 s1, .int .i64 s2, .int .i64 s3] 23 (0, 0)) := (hb.block W.heap.size (blk_lt HX5.out)).trans HX5.out; have z6_0 : w6.cell? ⟨W.heap.size, 0, none⟩ = some (.int .i64 n) := (by rw [World.cell?, hx]; rfl); have z6_1 : w6.cell? ⟨W.heap.size, 1, none⟩ = some (.int .i64 d) := (by rw [World.cell?, hx]; rfl); have z6_2 : w6.cell? ⟨W.heap.size, 2, none⟩ = some (.bool bg) := (by rw [World.cell?, hx]; rfl); have z6_3 : w6.cell? ⟨W.heap.size, 3, none⟩ = some (.bool tr) := (by rw [World.cell?, hx]; rfl); have z6_4 : w6.cell? ⟨W.heap.size, 4, none⟩ = some (.int .i64 m1) := (by rw [World.cell?, hx]; rfl); have z6_5 : w6.cell? ⟨W.heap.size, 5, none⟩ = some (.int .i64 m2) := (by rw [World.cell?, hx]; rfl); have z6_6 : w6.cell? ⟨W.heap.size, 6, none⟩ = some (.int .i64 m3) := (by rw [World.cell?, hx]; rfl); have z6_7 : w6.cell? ⟨W.heap.size, 7, none⟩ = some (.int .i64 s1) := (by rw [World.cell?, hx]; rfl); have z6_8 : w6.cell? ⟨W.heap.size, 8, none⟩ = some (.int .i64 s2) := (by rw [World.cell?, hx]; rfl); have z6_9 : w6.cell? ⟨W.heap.size, 9, none⟩ = some (.int .i64 s3) := (by rw [World.cell?, hx]; rfl); have HX6 := Lib.hid hx; have HB6 := Lib.hid (show Below W.heap.size W w6 from by first | exact HB5.out.trans (Below.mono hb HB5.out.size) | exact (Below.drew HB5.out).trans (Below.mono hb HB5.out.size)); clear hb hx)
        | (go_at_call 18; (with_reducible refine (X.format_Colour.calls n d bg tr m1 m2 m3 s1 s2 s3 vv q _ EC.out).mono ?_); rintro e w7 ⟨rfl, hb⟩; have hx : w7.heap[W.heap.size]? = some (.cells #[.int .i64 n, .int .i64 d, .bool bg, .bool tr, .int .i64 m1, .int .i64 m2, .int .i64 m3, .int .i64 s1, .int .i64 s2, .int .i64 s3] 23 (0, 0)) := (hb.block W.heap.size (blk_lt HX6.out)).trans HX6.out; have z7_0 : w7.cell? ⟨W.heap.size, 0, none⟩ = some (.int .i64 n) := (by rw [World.cell?, hx]; rfl); have z7_1 : w7.cell? ⟨W.heap.size, 1, none⟩ = some (.int .i64 d) := (by rw [World.cell?, hx]; rfl); have z7_2 : w7.cell? ⟨W.heap.size, 2, none⟩ = some (.bool bg) := (by rw [World.cell?, hx]; rfl); have z7_3 : w7.cell? ⟨W.heap.size, 3, none⟩ = some (.bool tr) := (by rw [World.cell?, hx]; rfl); have z7_4 : w7.cell? ⟨W.heap.size, 4, none⟩ = some (.int .i64 m1) := (by rw [World.cell?, hx]; rfl); have z7_5 : w7.cell? ⟨W.heap.size, 5, none⟩ = some (.int .i64 m2) := (by rw [World.cell?, hx]; rfl); have z7_6 : w7.cell? ⟨W.heap.size, 6, none⟩ = some (.int .i64 m3) := (by rw [World.cell?, hx]; rfl); have z7_7 : w7.cell? ⟨W.heap.size, 7, none⟩ = some (.int .i64 s1) := (by rw [World.cell?, hx]; rfl); have z7_8 : w7.cell? ⟨W.heap.size, 8, none⟩ = some (.int .i64 s2) := (by rw [World.cell?, hx]; rfl); have z7_9 : w7.cell? ⟨W.heap.size, 9, none⟩ = some (.int .i64 s3) := (by rw [World.cell?, hx]; rfl); have HX7 := Lib.hid hx; have HB7 := Lib.hid (show Below W.heap.size W w7 from by first | exact HB6.out.trans (Below.mono hb HB6.out.size) | exact (Below.drew HB6.out).trans (Below.mono hb HB6.out.size)); clear hb hx))
      all_goals
        go_wp2_with fail
        go_meet
        exact ⟨by first | rfl | simp, HX7, HB7⟩
    case rest =>
      obtain ⟨rfl, HX8, HB8⟩ := hcut
      clear y0 y1 y2 y3 y4 y5 y6 y7 y8 y9
      have y0 : wc.cell? ⟨W.heap.size, 0, none⟩ = some (.int .i64 n) := by rw [World.cell?, HX8.out]; rfl
      have y1 : wc.cell? ⟨W.heap.size, 1, none⟩ = some (.int .i64 d) := by rw [World.cell?, HX8.out]; rfl
      have y2 : wc.cell? ⟨W.heap.size, 2, none⟩ = some (.bool bg) := by rw [World.cell?, HX8.out]; rfl
      have y3 : wc.cell? ⟨W.heap.size, 3, none⟩ = some (.bool tr) := by rw [World.cell?, HX8.out]; rfl
      have y4 : wc.cell? ⟨W.heap.size, 4, none⟩ = some (.int .i64 m1) := by rw [World.cell?, HX8.out]; rfl
      have y5 : wc.cell? ⟨W.heap.size, 5, none⟩ = some (.int .i64 m2) := by rw [World.cell?, HX8.out]; rfl
      have y6 : wc.cell? ⟨W.heap.size, 6, none⟩ = some (.int .i64 m3) := by rw [World.cell?, HX8.out]; rfl
      have y7 : wc.cell? ⟨W.heap.size, 7, none⟩ = some (.int .i64 s1) := by rw [World.cell?, HX8.out]; rfl
      have y8 : wc.cell? ⟨W.heap.size, 8, none⟩ = some (.int .i64 s2) := by rw [World.cell?, HX8.out]; rfl
      have y9 : wc.cell? ⟨W.heap.size, 9, none⟩ = some (.int .i64 s3) := by rw [World.cell?, HX8.out]; rfl
      go_upto_region 10 with (fail)
      go_cut [69] (fun s69 wx => s69 = .bool false ∧ Hid (wx.heap[W.heap.size]? = some (.cells #[.int .i64 n, .int .i64 d, .bool bg, .bool tr, .int .i64 m1, .int .i64 m2, .int .i64 m3, .int .i64 s1, .int .i64 s2, .int .i64 s3] 23 (0, 0))) ∧ Hid (Below W.heap.size W wx))
      case first =>
        by_cases k1 : 255 ≤ m1
        · by_cases k2 : 255 ≤ m2
          · by_cases k3 : 255 ≤ m3
            · have hqc := HL.out k1 k2 k3
              have n1 : (q == c0) = true := by simpa using hqc
              have n2 : (q != c0) = false := by simpa using hqc
              clear hqc
              go_wp2_with fail
              go_meet
              exact ⟨by first | rfl | simp, HX8, HB8⟩
            · go_wp2_with fail
              go_meet
              exact ⟨by first | rfl | simp [k1, k2, k3], HX8, HB8⟩
          · go_wp2_with fail
            go_meet
            exact ⟨by first | rfl | simp [k1, k2], HX8, HB8⟩
        · go_wp2_with fail
          go_meet
          exact ⟨by first | rfl | simp [k1], HX8, HB8⟩
      case rest =>
        obtain ⟨rfl, HX9, HB9⟩ := hcut
        clear y0 y1 y2 y3 y4 y5 y6 y7 y8 y9
        have y0 : wc.cell? ⟨W.heap.size, 0, none⟩ = some (.int .i64 n) := by rw [World.cell?, HX9.out]; rfl
        have y1 : wc.cell? ⟨W.heap.size, 1, none⟩ = some (.int .i64 d) := by rw [World.cell?, HX9.out]; rfl
        have y2 : wc.cell? ⟨W.heap.size, 2, none⟩ = some (.bool bg) := by rw [World.cell?, HX9.out]; rfl
        have y3 : wc.cell? ⟨W.heap.size, 3, none⟩ = some (.bool tr) := by rw [World.cell?, HX9.out]; rfl
        have y4 : wc.cell? ⟨W.heap.size, 4, none⟩ = some (.int .i64 m1) := by rw [World.cell?, HX9.out]; rfl
        have y5 : wc.cell? ⟨W.heap.size, 5, none⟩ = some (.int .i64 m2) := by rw [World.cell?, HX9.out]; rfl
        have y6 : wc.cell? ⟨W.heap.size, 6, none⟩ = some (.int .i64 m3) := by rw [World.cell?, HX9.out]; rfl
        have y7 : wc.cell? ⟨W.heap.size, 7, none⟩ = some (.int .i64 s1) := by rw [World.cell?, HX9.out]; rfl
        have y8 : wc.cell? ⟨W.heap.size, 8, none⟩ = some (.int .i64 s2) := by rw [World.cell?, HX9.out]; rfl
        have y9 : wc.cell? ⟨W.heap.size, 9, none⟩ = some (.int .i64 s3) := by rw [World.cell?, HX9.out]; rfl
        by_cases hsm : m1 ≤ 255 ∧ m2 ≤ 255 ∧ m3 ≤ 255
        · obtain ⟨k1, k2, k3⟩ := hsm
          have l1 := (mkN_bd (n := n) (by have := HV.out.bits; omega) HV.out.p1)
          have l2 := (mkN_bd (n := n) (by have := HV.out.bits; omega) HV.out.p2)
          have l3 := (mkN_bd (n := n) (by have := HV.out.bits; omega) HV.out.p3)
          obtain ⟨v, hvd⟩ : ∃ v : Nat, (u % 18446744073709551616).toNat &&& (mkN m1 s1 ||| mkN m2 s2 ||| mkN m3 s3) = v := ⟨_, rfl⟩
          have hvM : v &&& (mkN m1 s1 ||| mkN m2 s2 ||| mkN m3 s3) = v := by rw [← hvd, Nat.and_assoc, Nat.and_self]
          obtain ⟨C, hC1, hC2⟩ := value_back HV.out bg HVF.out k1 k2 k3 v hvM
          have EC2 := Lib.hid hC1
          have EV2 := Lib.hid hC2
          have e1 : IntKind.i64.wrap (m1 * 2 ^ min s1.toNat 64) = (mkN m1 s1 : Int) := by rw [Nat.min_eq_left (by omega), l1.1, IntKind.wrap_i64]; have := l1.2.2.1; omega
          have e2 : IntKind.i64.wrap (m2 * 2 ^ min s2.toNat 64) = (mkN m2 s2 : Int) := by rw [Nat.min_eq_left (by omega), l2.1, IntKind.wrap_i64]; have := l2.2.2.1; omega
          have e3 : IntKind.i64.wrap (m3 * 2 ^ min s3.toNat 64) = (mkN m3 s3 : Int) := by rw [Nat.min_eq_left (by omega), l3.1, IntKind.wrap_i64]; have := l3.2.2.1; omega
          have hwr : ∀ q, wrap64 q = IntKind.i64.wrap q := fun q => by rw [IntKind.wrap_i64]; unfold wrap64; omega
          have ho : Go.bits .and .i64 u (Go.bits .or .i64 (Go.bits .or .i64 (mkN m1 s1 : Int) (mkN m2 s2 : Int)) (mkN m3 s3 : Int)) = (v : Int) := by
            have a1 := l1.2.2.1
            have a2 := l2.2.2.1
            have a3 := l3.2.2.1
            have lM : mkN m1 s1 ||| mkN m2 s2 < 2 ^ 33 := Nat.or_lt_two_pow (by omega) (by omega)
            have lM2 : (mkN m1 s1 ||| mkN m2 s2) ||| mkN m3 s3 < 2 ^ 33 := Nat.or_lt_two_pow (by omega) (by omega)
            rw [orI _ _ (by omega) (by omega), orI _ _ (by omega) (by omega), and_nat _ _ (by omega), hvd]
          have HE := Lib.hid (And.intro e1 (And.intro e2 (And.intro e3 (And.intro hwr ho))))
          clear l1 l2 l3 hvd hvM hC1 hC2 e1 e2 e3 hwr ho
          go_upto_region 14 with (fail)
          go_cut [10] (fun s10 wx => s10 = .int .i64 (v : Int) ∧ Hid (wx.heap[W.heap.size]? = some (.cells #[.int .i64 n, .int .i64 d, .bool bg, .bool tr, .int .i64 m1, .int .i64 m2, .int .i64 m3, .int .i64 s1, .int .i64 s2, .int .i64 s3] 23 (0, 0))) ∧ Hid (Below W.heap.size W wx))
          case first =>
            go_quiet (fail)
            go_wp2_with fail
            go_meet
            refine ⟨?_, Lib.hid HX9.out, Lib.hid (pw_below_drewN HB9.out _)⟩
            obtain ⟨e1, e2, e3, hwr, ho⟩ := HE.out
            first
              | (rw [e1, e2, e3, ho])
              | (rw [hwr, hwr, hwr, e1, e2, e3, ho])
              | (simp only [hwr, e1, e2, e3, ho])
              | (trace_state; sorry)
          case rest =>
            obtain ⟨rfl, HX20, HB20⟩ := hcut
            clear y0 y1 y2 y3 y4 y5 y6 y7 y8 y9
            have y0 : wc.cell? ⟨W.heap.size, 0, none⟩ = some (.int .i64 n) := by rw [World.cell?, HX20.out]; rfl
            have y1 : wc.cell? ⟨W.heap.size, 1, none⟩ = some (.int .i64 d) := by rw [World.cell?, HX20.out]; rfl
            have y2 : wc.cell? ⟨W.heap.size, 2, none⟩ = some (.bool bg) := by rw [World.cell?, HX20.out]; rfl
            have y3 : wc.cell? ⟨W.heap.size, 3, none⟩ = some (.bool tr) := by rw [World.cell?, HX20.out]; rfl
            have y4 : wc.cell? ⟨W.heap.size, 4, none⟩ = some (.int .i64 m1) := by rw [World.cell?, HX20.out]; rfl
            have y5 : wc.cell? ⟨W.heap.size, 5, none⟩ = some (.int .i64 m2) := by rw [World.cell?, HX20.out]; rfl
            have y6 : wc.cell? ⟨W.heap.size, 6, none⟩ = some (.int .i64 m3) := by rw [World.cell?, HX20.out]; rfl
            have y7 : wc.cell? ⟨W.heap.size, 7, none⟩ = some (.int .i64 s1) := by rw [World.cell?, HX20.out]; rfl
            have y8 : wc.cell? ⟨W.heap.size, 8, none⟩ = some (.int .i64 s2) := by rw [World.cell?, HX20.out]; rfl
            have y9 : wc.cell? ⟨W.heap.size, 9, none⟩ = some (.int .i64 s3) := by rw [World.cell?, HX20.out]; rfl
            go_upto_region 15 with (fail)
            go_cut [6] (fun s6 wx => s6 = .bool true ∧ Hid (Below W.heap.size W wx))
            case first =>
              go_region_held3 (fun w' => w'.cell? ⟨W.heap.size, 0, none⟩ = some (.int .i64 n) ∧ w'.cell? ⟨W.heap.size, 1, none⟩ = some (.int .i64 d) ∧ w'.cell? ⟨W.heap.size, 2, none⟩ = some (.bool bg) ∧ w'.cell? ⟨W.heap.size, 3, none⟩ = some (.bool tr) ∧ w'.cell? ⟨W.heap.size, 4, none⟩ = some (.int .i64 m1) ∧ w'.cell? ⟨W.heap.size, 5, none⟩ = some (.int .i64 m2) ∧ w'.cell? ⟨W.heap.size, 6, none⟩ = some (.int .i64 m3) ∧ w'.cell? ⟨W.heap.size, 7, none⟩ = some (.int .i64 s1) ∧ w'.cell? ⟨W.heap.size, 8, none⟩ = some (.int .i64 s2) ∧ w'.cell? ⟨W.heap.size, 9, none⟩ = some (.int .i64 s3)) (go_keep) (first
                | (go_at_call 18; (with_reducible refine (X.format_Colour.calls n d bg tr m1 m2 m3 s1 s2 s3 (v : Int) C _ EC2.out).mono ?_); rintro e w21 ⟨rfl, hb⟩; have hx : w21.heap[W.heap.size]? = some (.cells #[.int .i64 n, .int .i64 d, .bool bg, .bool tr, .int .i64 m1, .int .i64 m2, .int .i64 m3, .int .i64 s1, .int .i64 s2, .int .i64 s3] 23 (0, 0)) := (hb.block W.heap.size (blk_lt HX20.out)).trans HX20.out; have z21_0 : w21.cell? ⟨W.heap.size, 0, none⟩ = some (.int .i64 n) := (by rw [World.cell?, hx]; rfl); have z21_1 : w21.cell? ⟨W.heap.size, 1, none⟩ = some (.int .i64 d) := (by rw [World.cell?, hx]; rfl); have z21_2 : w21.cell? ⟨W.heap.size, 2, none⟩ = some (.bool bg) := (by rw [World.cell?, hx]; rfl); have z21_3 : w21.cell? ⟨W.heap.size, 3, none⟩ = some (.bool tr) := (by rw [World.cell?, hx]; rfl); have z21_4 : w21.cell? ⟨W.heap.size, 4, none⟩ = some (.int .i64 m1) := (by rw [World.cell?, hx]; rfl); have z21_5 : w21.cell? ⟨W.heap.size, 5, none⟩ = some (.int .i64 m2) := (by rw [World.cell?, hx]; rfl); have z21_6 : w21.cell? ⟨W.heap.size, 6, none⟩ = some (.int .i64 m3) := (by rw [World.cell?, hx]; rfl); have z21_7 : w21.cell? ⟨W.heap.size, 7, none⟩ = some (.int .i64 s1) := (by rw [World.cell?, hx]; rfl); have z21_8 : w21.cell? ⟨W.heap.size, 8, none⟩ = some (.int .i64 s2) := (by rw [World.cell?, hx]; rfl); have z21_9 : w21.cell? ⟨W.heap.size, 9, none⟩ = some (.int .i64 s3) := (by rw [World.cell?, hx]; rfl); have HX21 := Lib.hid hx; have HB21 := Lib.hid (show Below W.heap.size W w21 from by first | exact HB20.out.trans (Below.mono hb HB20.out.size) | exact (Below.drew HB20.out).trans (Below.mono hb HB20.out.size)); clear hb hx)
                | (go_at_call 19; (with_reducible refine (X.format_Value.calls n d bg tr m1 m2 m3 s1 s2 s3 C (v : Int) _ EV2.out).mono ?_); rintro e w22 ⟨rfl, hb⟩; have hx : w22.heap[W.heap.size]? = some (.cells #[.int .i64 n, .int .i64 d, .bool bg, .bool tr, .int .i64 m1, .int .i64 m2, .int .i64 m3, .int .i64 s1, .int .i64 s2, .int .i64 s3] 23 (0, 0)) := (hb.block W.heap.size (blk_lt HX21.out)).trans HX21.out; have z22_0 : w22.cell? ⟨W.heap.size, 0, none⟩ = some (.int .i64 n) := (by rw [World.cell?, hx]; rfl); have z22_1 : w22.cell? ⟨W.heap.size, 1, none⟩ = some (.int .i64 d) := (by rw [World.cell?, hx]; rfl); have z22_2 : w22.cell? ⟨W.heap.size, 2, none⟩ = some (.bool bg) := (by rw [World.cell?, hx]; rfl); have z22_3 : w22.cell? ⟨W.heap.size, 3, none⟩ = some (.bool tr) := (by rw [World.cell?, hx]; rfl); have z22_4 : w22.cell? ⟨W.heap.size, 4, none⟩ = some (.int .i64 m1) := (by rw [World.cell?, hx]; rfl); have z22_5 : w22.cell? ⟨W.heap.size, 5, none⟩ = some (.int .i64 m2) := (by rw [World.cell?, hx]; rfl); have z22_6 : w22.cell? ⟨W.heap.size, 6, none⟩ = some (.int .i64 m3) := (by rw [World.cell?, hx]; rfl); have z22_7 : w22.cell? ⟨W.heap.size, 7, none⟩ = some (.int .i64 s1) := (by rw [World.cell?, hx]; rfl); have z22_8 : w22.cell? ⟨W.heap.size, 8, none⟩ = some (.int .i64 s2) := (by rw [World.cell?, hx]; rfl); have z22_9 : w22.cell? ⟨W.heap.size, 9, none⟩ = some (.int .i64 s3) := (by rw [World.cell?, hx]; rfl); have HX22 := Lib.hid hx; have HB22 := Lib.hid (show Below W.heap.size W w22 from by first | exact HB21.out.trans (Below.mono hb HB21.out.size) | exact (Below.drew HB21.out).trans (Below.mono hb HB21.out.size)); clear hb hx))
              all_goals
                go_wp2_with fail
                go_meet
                exact ⟨by first | rfl | simp, HB22⟩
            case rest =>
              obtain ⟨rfl, HB30⟩ := hcut
              go_wp2_with fail
              go_ret
              exact ⟨rfl, HB30.out⟩
        · go_wp2_with fail
          all_goals first
            | (go_ret; exact ⟨rfl, HB9.out⟩)
            | (exfalso; omega)
end Go.Proofs.Ytaielfghgmghgaa.H
