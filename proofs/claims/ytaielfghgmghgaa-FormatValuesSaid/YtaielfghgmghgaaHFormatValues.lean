/- FormatValues: the value of any colour, and the colour of any value, by any format, are just what the document says. No condition. -/
-- OPEN 0 Go.Proofs.Ytaielfghgmghgaa.RC.open_format fa fb fc fd fe ff fg fh fi fj : ga gb ge gf gg gh gi gj
import Derived.Test.YtaielfghgmghgaaFM3
import Derived.Test.YtaielfghgmghgaaRF
import Derived.Deep.RegionHeld3
import Derived.Deep.DeepCutAuto
namespace Go.Proofs.Ytaielfghgmghgaa.H
open Go.RowKit Go.Proofs.YtaielfghgmghgaaW.PrintWords Go.Proofs.YtaielfghgmghgaaW.PrintLast Go.Proofs.YtaielfghgmghgaaW.PrintMore Go.Proofs.Ytaielfghgmghgaa.B Go.Proofs.Ytaielfghgmghgaa.F
set_option linter.unusedVariables false
set_option linter.unusedSimpArgs false
theorem works_f : X.miradorlaw13_works.f = some true := by decide +kernel
set_option maxHeartbeats 4000000 in
set_option maxRecDepth 100000 in
theorem FormatValues_walk (n d : Int) (bg tr : Bool) (m1 m2 m3 s1 s2 s3 c : Int) (W : World) (h0 : (Lit.int .i64 n).wf = true) (h1 : (Lit.int .i64 d).wf = true) (h4 : (Lit.int .i64 m1).wf = true) (h5 : (Lit.int .i64 m2).wf = true) (h6 : (Lit.int .i64 m3).wf = true) (h7 : (Lit.int .i64 s1).wf = true) (h8 : (Lit.int .i64 s2).wf = true) (h9 : (Lit.int .i64 s3).wf = true) (hc : (Lit.int .i64 c).wf = true) :
    Calls Try.prog 5 #[.agg #[.int .i64 n, .int .i64 d, .bool bg, .bool tr, .int .i64 m1, .int .i64 m2, .int .i64 m3, .int .i64 s1, .int .i64 s2, .int .i64 s3], .int .i64 c] W fun e W' => e = .returned (.bool true) ∧ Below W.heap.size W W' := by
  obtain ⟨b, h1', h2', h3'⟩ := valid_f 40 (by omega) n d bg tr m1 m2 m3 s1 s2 s3
  have HVF := Lib.hid h1'
  have HRF := Lib.hid h2'
  have HBX := Lib.hid (below_alloc (Below.refl W.heap.size W) (.cells #[.int .i64 n, .int .i64 d, .bool bg, .bool tr, .int .i64 m1, .int .i64 m2, .int .i64 m3, .int .i64 s1, .int .i64 s2, .int .i64 s3] 23))
  have HGX := Lib.hid (heap_alloc_new W (.cells #[.int .i64 n, .int .i64 d, .bool bg, .bool tr, .int .i64 m1, .int .i64 m2, .int .i64 m3, .int .i64 s1, .int .i64 s2, .int .i64 s3] 23))
  have HI := Lib.hid h3'
  clear h0 h1 h4 h5 h6 h7 h8 h9 hc h1' h2' h3'
  go_enter Try.func5, Try.ntmps5
  go_wp2_with fail
  refine (X.miradorlaw13_works.calls true _ works_f).mono ?_
  rintro e w1 ⟨rfl, hb⟩
  have HX1 := Lib.hid ((hb.block W.heap.size (by simp)).trans HGX.out)
  have HB1 := Lib.hid (HBX.out.trans (Below.mono hb (by simp)))
  clear hb
  have y0 : w1.cell? ⟨W.heap.size, 0, none⟩ = some (.int .i64 n) := by rw [World.cell?, HX1.out]; rfl
  have y1 : w1.cell? ⟨W.heap.size, 1, none⟩ = some (.int .i64 d) := by rw [World.cell?, HX1.out]; rfl
  have y2 : w1.cell? ⟨W.heap.size, 2, none⟩ = some (.bool bg) := by rw [World.cell?, HX1.out]; rfl
  have y3 : w1.cell? ⟨W.heap.size, 3, none⟩ = some (.bool tr) := by rw [World.cell?, HX1.out]; rfl
  have y4 : w1.cell? ⟨W.heap.size, 4, none⟩ = some (.int .i64 m1) := by rw [World.cell?, HX1.out]; rfl
  have y5 : w1.cell? ⟨W.heap.size, 5, none⟩ = some (.int .i64 m2) := by rw [World.cell?, HX1.out]; rfl
  have y6 : w1.cell? ⟨W.heap.size, 6, none⟩ = some (.int .i64 m3) := by rw [World.cell?, HX1.out]; rfl
  have y7 : w1.cell? ⟨W.heap.size, 7, none⟩ = some (.int .i64 s1) := by rw [World.cell?, HX1.out]; rfl
  have y8 : w1.cell? ⟨W.heap.size, 8, none⟩ = some (.int .i64 s2) := by rw [World.cell?, HX1.out]; rfl
  have y9 : w1.cell? ⟨W.heap.size, 9, none⟩ = some (.int .i64 s3) := by rw [World.cell?, HX1.out]; rfl
  go_wp2_with fail
  refine (X.miradorref13_Valid.calls 40 n d bg tr m1 m2 m3 s1 s2 s3 b _ HRF.out).mono ?_
  rintro e w2 ⟨rfl, hb⟩
  have HX2 := Lib.hid ((hb.block W.heap.size (blk_lt HX1.out)).trans HX1.out)
  have HB2 := Lib.hid (HB1.out.trans (Below.mono hb HB1.out.size))
  clear hb y0 y1 y2 y3 y4 y5 y6 y7 y8 y9
  have y0 : w2.cell? ⟨W.heap.size, 0, none⟩ = some (.int .i64 n) := by rw [World.cell?, HX2.out]; rfl
  have y1 : w2.cell? ⟨W.heap.size, 1, none⟩ = some (.int .i64 d) := by rw [World.cell?, HX2.out]; rfl
  have y2 : w2.cell? ⟨W.heap.size, 2, none⟩ = some (.bool bg) := by rw [World.cell?, HX2.out]; rfl
  have y3 : w2.cell? ⟨W.heap.size, 3, none⟩ = some (.bool tr) := by rw [World.cell?, HX2.out]; rfl
  have y4 : w2.cell? ⟨W.heap.size, 4, none⟩ = some (.int .i64 m1) := by rw [World.cell?, HX2.out]; rfl
  have y5 : w2.cell? ⟨W.heap.size, 5, none⟩ = some (.int .i64 m2) := by rw [World.cell?, HX2.out]; rfl
  have y6 : w2.cell? ⟨W.heap.size, 6, none⟩ = some (.int .i64 m3) := by rw [World.cell?, HX2.out]; rfl
  have y7 : w2.cell? ⟨W.heap.size, 7, none⟩ = some (.int .i64 s1) := by rw [World.cell?, HX2.out]; rfl
  have y8 : w2.cell? ⟨W.heap.size, 8, none⟩ = some (.int .i64 s2) := by rw [World.cell?, HX2.out]; rfl
  have y9 : w2.cell? ⟨W.heap.size, 9, none⟩ = some (.int .i64 s3) := by rw [World.cell?, HX2.out]; rfl
  cases b with
  | false =>
    have E1 := Lib.hid (show X.format_Value.f n d bg tr m1 m2 m3 s1 s2 s3 c = some 0 from by unfold X.format_Value.f; rw [HVF.out]; rfl)
    have E2 := Lib.hid (show ∀ v, X.format_Colour.f n d bg tr m1 m2 m3 s1 s2 s3 v = some 0 from fun v => by unfold X.format_Colour.f; rw [HVF.out]; rfl)
    have E3 := Lib.hid (show X.format_Quant.f n d bg tr m1 m2 m3 s1 s2 s3 c = some 0 from by unfold X.format_Quant.f; rw [E1.out]; simp only [Option.bind_some, E2.out])
    have E4 := Lib.hid (show X.format_Size.f n d bg tr m1 m2 m3 s1 s2 s3 = some 0 from by unfold X.format_Size.f; rw [HVF.out]; rfl)
    go_wp2_with fail
    refine (X.format_Value.calls n d bg tr m1 m2 m3 s1 s2 s3 c 0 _ E1.out).mono ?_
    rintro e w3 ⟨rfl, hb⟩
    have HX3 := Lib.hid ((hb.block W.heap.size (blk_lt HX2.out)).trans HX2.out)
    have HB3 := Lib.hid (HB2.out.trans (Below.mono hb HB2.out.size))
    clear hb y0 y1 y2 y3 y4 y5 y6 y7 y8 y9
    have y0 : w3.cell? ⟨W.heap.size, 0, none⟩ = some (.int .i64 n) := by rw [World.cell?, HX3.out]; rfl
    have y1 : w3.cell? ⟨W.heap.size, 1, none⟩ = some (.int .i64 d) := by rw [World.cell?, HX3.out]; rfl
    have y2 : w3.cell? ⟨W.heap.size, 2, none⟩ = some (.bool bg) := by rw [World.cell?, HX3.out]; rfl
    have y3 : w3.cell? ⟨W.heap.size, 3, none⟩ = some (.bool tr) := by rw [World.cell?, HX3.out]; rfl
    have y4 : w3.cell? ⟨W.heap.size, 4, none⟩ = some (.int .i64 m1) := by rw [World.cell?, HX3.out]; rfl
    have y5 : w3.cell? ⟨W.heap.size, 5, none⟩ = some (.int .i64 m2) := by rw [World.cell?, HX3.out]; rfl
    have y6 : w3.cell? ⟨W.heap.size, 6, none⟩ = some (.int .i64 m3) := by rw [World.cell?, HX3.out]; rfl
    have y7 : w3.cell? ⟨W.heap.size, 7, none⟩ = some (.int .i64 s1) := by rw [World.cell?, HX3.out]; rfl
    have y8 : w3.cell? ⟨W.heap.size, 8, none⟩ = some (.int .i64 s2) := by rw [World.cell?, HX3.out]; rfl
    have y9 : w3.cell? ⟨W.heap.size, 9, none⟩ = some (.int .i64 s3) := by rw [World.cell?, HX3.out]; rfl
    go_wp2_with fail
    refine (X.format_Colour.calls n d bg tr m1 m2 m3 s1 s2 s3 c 0 _ (E2.out c)).mono ?_
    rintro e w4 ⟨rfl, hb⟩
    have HX4 := Lib.hid ((hb.block W.heap.size (blk_lt HX3.out)).trans HX3.out)
    have HB4 := Lib.hid (HB3.out.trans (Below.mono hb HB3.out.size))
    clear hb y0 y1 y2 y3 y4 y5 y6 y7 y8 y9
    have y0 : w4.cell? ⟨W.heap.size, 0, none⟩ = some (.int .i64 n) := by rw [World.cell?, HX4.out]; rfl
    have y1 : w4.cell? ⟨W.heap.size, 1, none⟩ = some (.int .i64 d) := by rw [World.cell?, HX4.out]; rfl
    have y2 : w4.cell? ⟨W.heap.size, 2, none⟩ = some (.bool bg) := by rw [World.cell?, HX4.out]; rfl
    have y3 : w4.cell? ⟨W.heap.size, 3, none⟩ = some (.bool tr) := by rw [World.cell?, HX4.out]; rfl
    have y4 : w4.cell? ⟨W.heap.size, 4, none⟩ = some (.int .i64 m1) := by rw [World.cell?, HX4.out]; rfl
    have y5 : w4.cell? ⟨W.heap.size, 5, none⟩ = some (.int .i64 m2) := by rw [World.cell?, HX4.out]; rfl
    have y6 : w4.cell? ⟨W.heap.size, 6, none⟩ = some (.int .i64 m3) := by rw [World.cell?, HX4.out]; rfl
    have y7 : w4.cell? ⟨W.heap.size, 7, none⟩ = some (.int .i64 s1) := by rw [World.cell?, HX4.out]; rfl
    have y8 : w4.cell? ⟨W.heap.size, 8, none⟩ = some (.int .i64 s2) := by rw [World.cell?, HX4.out]; rfl
    have y9 : w4.cell? ⟨W.heap.size, 9, none⟩ = some (.int .i64 s3) := by rw [World.cell?, HX4.out]; rfl
    go_wp2_with fail
    refine (X.format_Quant.calls n d bg tr m1 m2 m3 s1 s2 s3 c 0 _ E3.out).mono ?_
    rintro e w5 ⟨rfl, hb⟩
    have HX5 := Lib.hid ((hb.block W.heap.size (blk_lt HX4.out)).trans HX4.out)
    have HB5 := Lib.hid (HB4.out.trans (Below.mono hb HB4.out.size))
    clear hb y0 y1 y2 y3 y4 y5 y6 y7 y8 y9
    have y0 : w5.cell? ⟨W.heap.size, 0, none⟩ = some (.int .i64 n) := by rw [World.cell?, HX5.out]; rfl
    have y1 : w5.cell? ⟨W.heap.size, 1, none⟩ = some (.int .i64 d) := by rw [World.cell?, HX5.out]; rfl
    have y2 : w5.cell? ⟨W.heap.size, 2, none⟩ = some (.bool bg) := by rw [World.cell?, HX5.out]; rfl
    have y3 : w5.cell? ⟨W.heap.size, 3, none⟩ = some (.bool tr) := by rw [World.cell?, HX5.out]; rfl
    have y4 : w5.cell? ⟨W.heap.size, 4, none⟩ = some (.int .i64 m1) := by rw [World.cell?, HX5.out]; rfl
    have y5 : w5.cell? ⟨W.heap.size, 5, none⟩ = some (.int .i64 m2) := by rw [World.cell?, HX5.out]; rfl
    have y6 : w5.cell? ⟨W.heap.size, 6, none⟩ = some (.int .i64 m3) := by rw [World.cell?, HX5.out]; rfl
    have y7 : w5.cell? ⟨W.heap.size, 7, none⟩ = some (.int .i64 s1) := by rw [World.cell?, HX5.out]; rfl
    have y8 : w5.cell? ⟨W.heap.size, 8, none⟩ = some (.int .i64 s2) := by rw [World.cell?, HX5.out]; rfl
    have y9 : w5.cell? ⟨W.heap.size, 9, none⟩ = some (.int .i64 s3) := by rw [World.cell?, HX5.out]; rfl
    go_wp2_with fail
    refine (X.format_Size.calls n d bg tr m1 m2 m3 s1 s2 s3 0 _ E4.out).mono ?_
    rintro e w6 ⟨rfl, hb⟩
    have HX6 := Lib.hid ((hb.block W.heap.size (blk_lt HX5.out)).trans HX5.out)
    have HB6 := Lib.hid (HB5.out.trans (Below.mono hb HB5.out.size))
    clear hb y0 y1 y2 y3 y4 y5 y6 y7 y8 y9
    have y0 : w6.cell? ⟨W.heap.size, 0, none⟩ = some (.int .i64 n) := by rw [World.cell?, HX6.out]; rfl
    have y1 : w6.cell? ⟨W.heap.size, 1, none⟩ = some (.int .i64 d) := by rw [World.cell?, HX6.out]; rfl
    have y2 : w6.cell? ⟨W.heap.size, 2, none⟩ = some (.bool bg) := by rw [World.cell?, HX6.out]; rfl
    have y3 : w6.cell? ⟨W.heap.size, 3, none⟩ = some (.bool tr) := by rw [World.cell?, HX6.out]; rfl
    have y4 : w6.cell? ⟨W.heap.size, 4, none⟩ = some (.int .i64 m1) := by rw [World.cell?, HX6.out]; rfl
    have y5 : w6.cell? ⟨W.heap.size, 5, none⟩ = some (.int .i64 m2) := by rw [World.cell?, HX6.out]; rfl
    have y6 : w6.cell? ⟨W.heap.size, 6, none⟩ = some (.int .i64 m3) := by rw [World.cell?, HX6.out]; rfl
    have y7 : w6.cell? ⟨W.heap.size, 7, none⟩ = some (.int .i64 s1) := by rw [World.cell?, HX6.out]; rfl
    have y8 : w6.cell? ⟨W.heap.size, 8, none⟩ = some (.int .i64 s2) := by rw [World.cell?, HX6.out]; rfl
    have y9 : w6.cell? ⟨W.heap.size, 9, none⟩ = some (.int .i64 s3) := by rw [World.cell?, HX6.out]; rfl
    go_wp2_with fail
    go_ret
    exact ⟨rfl, HB6.out⟩
  | true =>
    have hv := HI.out.1 (by first | rfl | trivial)
    obtain ⟨vv, hvv⟩ : ∃ vv : Int, (((plN (cp c 0) m1 s1 + plN (cp c 1) m2 s2 + plN (cp c 2) m3 s3 : Nat) : Nat) : Int) = vv := ⟨_, rfl⟩
    have e1 := value_f hv bg c HVF.out
    have e2 := rvalue_f hv bg c
    rw [hvv] at e1 e2
    have e3 := fun v => colour_f hv bg v HVF.out
    have e4 := fun v => rcolour_f hv bg v
    have hn8 : n = 8 ∨ n = 16 ∨ n = 32 := hv.bits
    have e5 : X.format_Quant.f n d bg tr m1 m2 m3 s1 s2 s3 c = X.miradorref13_Quant.f n d bg tr m1 m2 m3 s1 s2 s3 c := by
      unfold X.format_Quant.f X.miradorref13_Quant.f
      rw [e1, e2]; simp only [Option.bind_some, e3, e4]
    obtain ⟨q, hq⟩ : ∃ q, X.miradorref13_Quant.f n d bg tr m1 m2 m3 s1 s2 s3 c = some q := by
      unfold X.miradorref13_Quant.f
      rw [e2]; simp only [Option.bind_some, e4]; exact ⟨_, rfl⟩
    have e7 : X.format_Size.f n d bg tr m1 m2 m3 s1 s2 s3 = some (wrap64 (Int.tdiv n 8)) := by unfold X.format_Size.f; rw [HVF.out]; rfl
    obtain ⟨cc, hcc⟩ : ∃ cc : Int, upI (vp c m1 s1) m1 * 65536 + upI (vp c m2 s2) m2 * 256 + upI (vp c m3 s3) m3 = cc := ⟨_, rfl⟩
    have e3c := e3 c
    have e4c := e4 c
    rw [hcc] at e3c e4c
    have E1 := Lib.hid e1
    have E2 := Lib.hid e2
    have E3 := Lib.hid e3c
    have E4 := Lib.hid e4c
    have E5 := Lib.hid (e5.trans hq)
    have E6 := Lib.hid hq
    have E7 := Lib.hid e7
    have nb0 : 0 ≤ n ∧ n ≤ 32 := by omega
    clear hvv e1 e2 e3 e4 hn8 e5 hq e7 hcc e3c e4c hv
    go_upto_region 7 with (fail)
    go_cut [4] (fun s4 wx => s4 = .bool true ∧ Hid (Below W.heap.size W wx))
    case first =>
      go_region_held3 (fun w' => w'.cell? ⟨W.heap.size, 0, none⟩ = some (.int .i64 n) ∧ w'.cell? ⟨W.heap.size, 1, none⟩ = some (.int .i64 d) ∧ w'.cell? ⟨W.heap.size, 2, none⟩ = some (.bool bg) ∧ w'.cell? ⟨W.heap.size, 3, none⟩ = some (.bool tr) ∧ w'.cell? ⟨W.heap.size, 4, none⟩ = some (.int .i64 m1) ∧ w'.cell? ⟨W.heap.size, 5, none⟩ = some (.int .i64 m2) ∧ w'.cell? ⟨W.heap.size, 6, none⟩ = some (.int .i64 m3) ∧ w'.cell? ⟨W.heap.size, 7, none⟩ = some (.int .i64 s1) ∧ w'.cell? ⟨W.heap.size, 8, none⟩ = some (.int .i64 s2) ∧ w'.cell? ⟨W.heap.size, 9, none⟩ = some (.int .i64 s3)) (go_keep) (first
        | (go_at_call 19; refine (X.format_Value.calls n d bg tr m1 m2 m3 s1 s2 s3 c vv _ E1.out).mono ?_; rintro e w3 ⟨rfl, hb⟩; have hx : w3.heap[W.heap.size]? = some (.cells #[.int .i64 n, .int .i64 d, .bool bg, .bool tr, .int .i64 m1, .int .i64 m2, .int .i64 m3, .int .i64 s1, .int .i64 s2, .int .i64 s3] 23 (0, 0)) := (hb.block W.heap.size (blk_lt HX2.out)).trans HX2.out; have z3_0 : w3.cell? ⟨W.heap.size, 0, none⟩ = some (.int .i64 n) := (by rw [World.cell?, hx]; rfl); have z3_1 : w3.cell? ⟨W.heap.size, 1, none⟩ = some (.int .i64 d) := (by rw [World.cell?, hx]; rfl); have z3_2 : w3.cell? ⟨W.heap.size, 2, none⟩ = some (.bool bg) := (by rw [World.cell?, hx]; rfl); have z3_3 : w3.cell? ⟨W.heap.size, 3, none⟩ = some (.bool tr) := (by rw [World.cell?, hx]; rfl); have z3_4 : w3.cell? ⟨W.heap.size, 4, none⟩ = some (.int .i64 m1) := (by rw [World.cell?, hx]; rfl); have z3_5 : w3.cell? ⟨W.heap.size, 5, none⟩ = some (.int .i64 m2) := (by rw [World.cell?, hx]; rfl); have z3_6 : w3.cell? ⟨W.heap.size, 6, none⟩ = some (.int .i64 m3) := (by rw [World.cell?, hx]; rfl); have z3_7 : w3.cell? ⟨W.heap.size, 7, none⟩ = some (.int .i64 s1) := (by rw [World.cell?, hx]; rfl); have z3_8 : w3.cell? ⟨W.heap.size, 8, none⟩ = some (.int .i64 s2) := (by rw [World.cell?, hx]; rfl); have z3_9 : w3.cell? ⟨W.heap.size, 9, none⟩ = some (.int .i64 s3) := (by rw [World.cell?, hx]; rfl); have HX3 := Lib.hid hx; have HB3 := Lib.hid (show Below W.heap.size W w3 from by first | exact HB2.out.trans (Below.mono hb HB2.out.size) | exact (Below.drew HB2.out).trans (Below.mono hb HB2.out.size)); clear hb hx)
        | (go_at_call 21; refine (X.miradorref13_Value.calls n d bg tr m1 m2 m3 s1 s2 s3 c vv _ E2.out).mono ?_; rintro e w4 ⟨rfl, hb⟩; have hx : w4.heap[W.heap.size]? = some (.cells #[.int .i64 n, .int .i64 d, .bool bg, .bool tr, .int .i64 m1, .int .i64 m2, .int .i64 m3, .int .i64 s1, .int .i64 s2, .int .i64 s3] 23 (0, 0)) := (hb.block W.heap.size (blk_lt HX3.out)).trans HX3.out; have z4_0 : w4.cell? ⟨W.heap.size, 0, none⟩ = some (.int .i64 n) := (by rw [World.cell?, hx]; rfl); have z4_1 : w4.cell? ⟨W.heap.size, 1, none⟩ = some (.int .i64 d) := (by rw [World.cell?, hx]; rfl); have z4_2 : w4.cell? ⟨W.heap.size, 2, none⟩ = some (.bool bg) := (by rw [World.cell?, hx]; rfl); have z4_3 : w4.cell? ⟨W.heap.size, 3, none⟩ = some (.bool tr) := (by rw [World.cell?, hx]; rfl); have z4_4 : w4.cell? ⟨W.heap.size, 4, none⟩ = some (.int .i64 m1) := (by rw [World.cell?, hx]; rfl); have z4_5 : w4.cell? ⟨W.heap.size, 5, none⟩ = some (.int .i64 m2) := (by rw [World.cell?, hx]; rfl); have z4_6 : w4.cell? ⟨W.heap.size, 6, none⟩ = some (.int .i64 m3) := (by rw [World.cell?, hx]; rfl); have z4_7 : w4.cell? ⟨W.heap.size, 7, none⟩ = some (.int .i64 s1) := (by rw [World.cell?, hx]; rfl); have z4_8 : w4.cell? ⟨W.heap.size, 8, none⟩ = some (.int .i64 s2) := (by rw [World.cell?, hx]; rfl); have z4_9 : w4.cell? ⟨W.heap.size, 9, none⟩ = some (.int .i64 s3) := (by rw [World.cell?, hx]; rfl); have HX4 := Lib.hid hx; have HB4 := Lib.hid (show Below W.heap.size W w4 from by first | exact HB3.out.trans (Below.mono hb HB3.out.size) | exact (Below.drew HB3.out).trans (Below.mono hb HB3.out.size)); clear hb hx)
        | (go_at_call 18; refine (X.format_Colour.calls n d bg tr m1 m2 m3 s1 s2 s3 c cc _ E3.out).mono ?_; rintro e w5 ⟨rfl, hb⟩; have hx : w5.heap[W.heap.size]? = some (.cells #[.int .i64 n, .int .i64 d, .bool bg, .bool tr, .int .i64 m1, .int .i64 m2, .int .i64 m3, .int .i64 s1, .int .i64 s2, .int .i64 s3] 23 (0, 0)) := (hb.block W.heap.size (blk_lt HX4.out)).trans HX4.out; have z5_0 : w5.cell? ⟨W.heap.size, 0, none⟩ = some (.int .i64 n) := (by rw [World.cell?, hx]; rfl); have z5_1 : w5.cell? ⟨W.heap.size, 1, none⟩ = some (.int .i64 d) := (by rw [World.cell?, hx]; rfl); have z5_2 : w5.cell? ⟨W.heap.size, 2, none⟩ = some (.bool bg) := (by rw [World.cell?, hx]; rfl); have z5_3 : w5.cell? ⟨W.heap.size, 3, none⟩ = some (.bool tr) := (by rw [World.cell?, hx]; rfl); have z5_4 : w5.cell? ⟨W.heap.size, 4, none⟩ = some (.int .i64 m1) := (by rw [World.cell?, hx]; rfl); have z5_5 : w5.cell? ⟨W.heap.size, 5, none⟩ = some (.int .i64 m2) := (by rw [World.cell?, hx]; rfl); have z5_6 : w5.cell? ⟨W.heap.size, 6, none⟩ = some (.int .i64 m3) := (by rw [World.cell?, hx]; rfl); have z5_7 : w5.cell? ⟨W.heap.size, 7, none⟩ = some (.int .i64 s1) := (by rw [World.cell?, hx]; rfl); have z5_8 : w5.cell? ⟨W.heap.size, 8, none⟩ = some (.int .i64 s2) := (by rw [World.cell?, hx]; rfl); have z5_9 : w5.cell? ⟨W.heap.size, 9, none⟩ = some (.int .i64 s3) := (by rw [World.cell?, hx]; rfl); have HX5 := Lib.hid hx; have HB5 := Lib.hid (show Below W.heap.size W w5 from by first | exact HB4.out.trans (Below.mono hb HB4.out.size) | exact (Below.drew HB4.out).trans (Below.mono hb HB4.out.size)); clear hb hx)
        | (go_at_call 22; refine (X.miradorref13_Colour.calls n d bg tr m1 m2 m3 s1 s2 s3 c cc _ E4.out).mono ?_; rintro e w6 ⟨rfl, hb⟩; have hx : w6.heap[W.heap.size]? = some (.cells #[.int .i64 n, .int .i64 d, .bool bg, .bool tr, .int .i64 m1, .int .i64 m2, .int .i64 m3, .int .i64 s1, .int .i64 s2, .int .i64 s3] 23 (0, 0)) := (hb.block W.heap.size (blk_lt HX5.out)).trans HX5.out; have z6_0 : w6.cell? ⟨W.heap.size, 0, none⟩ = some (.int .i64 n) := (by rw [World.cell?, hx]; rfl); have z6_1 : w6.cell? ⟨W.heap.size, 1, none⟩ = some (.int .i64 d) := (by rw [World.cell?, hx]; rfl); have z6_2 : w6.cell? ⟨W.heap.size, 2, none⟩ = some (.bool bg) := (by rw [World.cell?, hx]; rfl); have z6_3 : w6.cell? ⟨W.heap.size, 3, none⟩ = some (.bool tr) := (by rw [World.cell?, hx]; rfl); have z6_4 : w6.cell? ⟨W.heap.size, 4, none⟩ = some (.int .i64 m1) := (by rw [World.cell?, hx]; rfl); have z6_5 : w6.cell? ⟨W.heap.size, 5, none⟩ = some (.int .i64 m2) := (by rw [World.cell?, hx]; rfl); have z6_6 : w6.cell? ⟨W.heap.size, 6, none⟩ = some (.int .i64 m3) := (by rw [World.cell?, hx]; rfl); have z6_7 : w6.cell? ⟨W.heap.size, 7, none⟩ = some (.int .i64 s1) := (by rw [World.cell?, hx]; rfl); have z6_8 : w6.cell? ⟨W.heap.size, 8, none⟩ = some (.int .i64 s2) := (by rw [World.cell?, hx]; rfl); have z6_9 : w6.cell? ⟨W.heap.size, 9, none⟩ = some (.int .i64 s3) := (by rw [World.cell?, hx]; rfl); have HX6 := Lib.hid hx; have HB6 := Lib.hid (show Below W.heap.size W w6 from by first | exact HB5.out.trans (Below.mono hb HB5.out.size) | exact (Below.drew HB5.out).trans (Below.mono hb HB5.out.size)); clear hb hx)
        | (go_at_call 17; refine (X.format_Quant.calls n d bg tr m1 m2 m3 s1 s2 s3 c q _ E5.out).mono ?_; rintro e w7 ⟨rfl, hb⟩; have hx : w7.heap[W.heap.size]? = some (.cells #[.int .i64 n, .int .i64 d, .bool bg, .bool tr, .int .i64 m1, .int .i64 m2, .int .i64 m3, .int .i64 s1, .int .i64 s2, .int .i64 s3] 23 (0, 0)) := (hb.block W.heap.size (blk_lt HX6.out)).trans HX6.out; have z7_0 : w7.cell? ⟨W.heap.size, 0, none⟩ = some (.int .i64 n) := (by rw [World.cell?, hx]; rfl); have z7_1 : w7.cell? ⟨W.heap.size, 1, none⟩ = some (.int .i64 d) := (by rw [World.cell?, hx]; rfl); have z7_2 : w7.cell? ⟨W.heap.size, 2, none⟩ = some (.bool bg) := (by rw [World.cell?, hx]; rfl); have z7_3 : w7.cell? ⟨W.heap.size, 3, none⟩ = some (.bool tr) := (by rw [World.cell?, hx]; rfl); have z7_4 : w7.cell? ⟨W.heap.size, 4, none⟩ = some (.int .i64 m1) := (by rw [World.cell?, hx]; rfl); have z7_5 : w7.cell? ⟨W.heap.size, 5, none⟩ = some (.int .i64 m2) := (by rw [World.cell?, hx]; rfl); have z7_6 : w7.cell? ⟨W.heap.size, 6, none⟩ = some (.int .i64 m3) := (by rw [World.cell?, hx]; rfl); have z7_7 : w7.cell? ⟨W.heap.size, 7, none⟩ = some (.int .i64 s1) := (by rw [World.cell?, hx]; rfl); have z7_8 : w7.cell? ⟨W.heap.size, 8, none⟩ = some (.int .i64 s2) := (by rw [World.cell?, hx]; rfl); have z7_9 : w7.cell? ⟨W.heap.size, 9, none⟩ = some (.int .i64 s3) := (by rw [World.cell?, hx]; rfl); have HX7 := Lib.hid hx; have HB7 := Lib.hid (show Below W.heap.size W w7 from by first | exact HB6.out.trans (Below.mono hb HB6.out.size) | exact (Below.drew HB6.out).trans (Below.mono hb HB6.out.size)); clear hb hx)
        | (go_at_call 23; refine (X.miradorref13_Quant.calls n d bg tr m1 m2 m3 s1 s2 s3 c q _ E6.out).mono ?_; rintro e w8 ⟨rfl, hb⟩; have hx : w8.heap[W.heap.size]? = some (.cells #[.int .i64 n, .int .i64 d, .bool bg, .bool tr, .int .i64 m1, .int .i64 m2, .int .i64 m3, .int .i64 s1, .int .i64 s2, .int .i64 s3] 23 (0, 0)) := (hb.block W.heap.size (blk_lt HX7.out)).trans HX7.out; have z8_0 : w8.cell? ⟨W.heap.size, 0, none⟩ = some (.int .i64 n) := (by rw [World.cell?, hx]; rfl); have z8_1 : w8.cell? ⟨W.heap.size, 1, none⟩ = some (.int .i64 d) := (by rw [World.cell?, hx]; rfl); have z8_2 : w8.cell? ⟨W.heap.size, 2, none⟩ = some (.bool bg) := (by rw [World.cell?, hx]; rfl); have z8_3 : w8.cell? ⟨W.heap.size, 3, none⟩ = some (.bool tr) := (by rw [World.cell?, hx]; rfl); have z8_4 : w8.cell? ⟨W.heap.size, 4, none⟩ = some (.int .i64 m1) := (by rw [World.cell?, hx]; rfl); have z8_5 : w8.cell? ⟨W.heap.size, 5, none⟩ = some (.int .i64 m2) := (by rw [World.cell?, hx]; rfl); have z8_6 : w8.cell? ⟨W.heap.size, 6, none⟩ = some (.int .i64 m3) := (by rw [World.cell?, hx]; rfl); have z8_7 : w8.cell? ⟨W.heap.size, 7, none⟩ = some (.int .i64 s1) := (by rw [World.cell?, hx]; rfl); have z8_8 : w8.cell? ⟨W.heap.size, 8, none⟩ = some (.int .i64 s2) := (by rw [World.cell?, hx]; rfl); have z8_9 : w8.cell? ⟨W.heap.size, 9, none⟩ = some (.int .i64 s3) := (by rw [World.cell?, hx]; rfl); have HX8 := Lib.hid hx; have HB8 := Lib.hid (show Below W.heap.size W w8 from by first | exact HB7.out.trans (Below.mono hb HB7.out.size) | exact (Below.drew HB7.out).trans (Below.mono hb HB7.out.size)); clear hb hx)
        | (go_at_call 20; refine (X.format_Size.calls n d bg tr m1 m2 m3 s1 s2 s3 (wrap64 (Int.tdiv n 8)) _ E7.out).mono ?_; rintro e w9 ⟨rfl, hb⟩; have hx : w9.heap[W.heap.size]? = some (.cells #[.int .i64 n, .int .i64 d, .bool bg, .bool tr, .int .i64 m1, .int .i64 m2, .int .i64 m3, .int .i64 s1, .int .i64 s2, .int .i64 s3] 23 (0, 0)) := (hb.block W.heap.size (blk_lt HX8.out)).trans HX8.out; have z9_0 : w9.cell? ⟨W.heap.size, 0, none⟩ = some (.int .i64 n) := (by rw [World.cell?, hx]; rfl); have z9_1 : w9.cell? ⟨W.heap.size, 1, none⟩ = some (.int .i64 d) := (by rw [World.cell?, hx]; rfl); have z9_2 : w9.cell? ⟨W.heap.size, 2, none⟩ = some (.bool bg) := (by rw [World.cell?, hx]; rfl); have z9_3 : w9.cell? ⟨W.heap.size, 3, none⟩ = some (.bool tr) := (by rw [World.cell?, hx]; rfl); have z9_4 : w9.cell? ⟨W.heap.size, 4, none⟩ = some (.int .i64 m1) := (by rw [World.cell?, hx]; rfl); have z9_5 : w9.cell? ⟨W.heap.size, 5, none⟩ = some (.int .i64 m2) := (by rw [World.cell?, hx]; rfl); have z9_6 : w9.cell? ⟨W.heap.size, 6, none⟩ = some (.int .i64 m3) := (by rw [World.cell?, hx]; rfl); have z9_7 : w9.cell? ⟨W.heap.size, 7, none⟩ = some (.int .i64 s1) := (by rw [World.cell?, hx]; rfl); have z9_8 : w9.cell? ⟨W.heap.size, 8, none⟩ = some (.int .i64 s2) := (by rw [World.cell?, hx]; rfl); have z9_9 : w9.cell? ⟨W.heap.size, 9, none⟩ = some (.int .i64 s3) := (by rw [World.cell?, hx]; rfl); have HX9 := Lib.hid hx; have HB9 := Lib.hid (show Below W.heap.size W w9 from by first | exact HB8.out.trans (Below.mono hb HB8.out.size) | exact (Below.drew HB8.out).trans (Below.mono hb HB8.out.size)); clear hb hx))
      all_goals
        go_wp2_with fail
        go_meet
        have hq : IntKind.i64.wrap (n.tdiv 8) = wrap64 (n.tdiv 8) := by rw [IntKind.wrap_i64]; unfold wrap64; omega
        exact ⟨by rw [hq]; simp, HB9⟩
    case rest =>
      obtain ⟨rfl, HB20⟩ := hcut
      go_wp2_with fail
      go_ret
      exact ⟨rfl, HB20.out⟩
end Go.Proofs.Ytaielfghgmghgaa.H
