/- Same: two messages that are the same. No condition. -/
import Derived.Test.YtclikkhkhoicfaaWWords
import Derived.Test.YtclikkhkhoicfaaXx14
import Derived.Lib.Hide
import Derived.Deep.QuietTactic
import Derived.BigQuiet
namespace Go.Proofs.Ytclikkhkhoicfaa.H
open Go.RowKit Go.Proofs.YtclikkhkhoicfaaW.PrintWords Go.Proofs.YtclikkhkhoicfaaW.PrintLast Go.Proofs.YtclikkhkhoicfaaW.PrintMore Go.Proofs.Ytclikkhkhoicfaa.X
set_option linter.unusedVariables false
set_option linter.unusedSimpArgs false
set_option maxHeartbeats 8000000 in
set_option maxRecDepth 100000 in
theorem same_c (u0 : Int) (u1 : Bool) (u2 : Int) (u3 : Int) (u4 : Int) (u5 : Int) (u6 : Int) (u7 : Int) (u8 : Int) (u9 : Bool) (u10 : Bool) (u11 : Int) (u12 : Int) (u13 : Int) (u14 : Int) (u15 : Int) (u16 : Int) (u17 : List Int) (u18 : ByteArray) (A : Option Addr) (c : Nat) (B : Option Addr) (d : Nat) (W : World) (h1 : Kd.C (Kd.int .i64) W A u17.length u17) (h2 : Kd.C (Kd.int .i64) W B u17.length u17) (hl : u17.length ≤ 1000000000000) :
    Calls Try.prog 12 #[.agg #[.int .i64 u0, .bool u1, .int .i64 u2, .int .i64 u3, .int .i64 u4, .int .i64 u5, .int .i64 u6, .int .i64 u7, .int .i64 u8, .bool u9, .bool u10, .int .i64 u11, .int .i64 u12, .int .i64 u13, .int .i64 u14, .int .i64 u15, .int .i64 u16, .slice A u17.length c, .string u18], .agg #[.int .i64 u0, .bool u1, .int .i64 u2, .int .i64 u3, .int .i64 u4, .int .i64 u5, .int .i64 u6, .int .i64 u7, .int .i64 u8, .bool u9, .bool u10, .int .i64 u11, .int .i64 u12, .int .i64 u13, .int .i64 u14, .int .i64 u15, .int .i64 u16, .slice B u17.length d, .string u18]] W fun e W' => e = .returned (.bool true) ∧ Below W.heap.size W W' := by
  have hbz := below_alloc (below_alloc (Below.refl W.heap.size W) (.cells #[.int .i64 u0, .bool u1, .int .i64 u2, .int .i64 u3, .int .i64 u4, .int .i64 u5, .int .i64 u6, .int .i64 u7, .int .i64 u8, .bool u9, .bool u10, .int .i64 u11, .int .i64 u12, .int .i64 u13, .int .i64 u14, .int .i64 u15, .int .i64 u16, .slice A u17.length c, .string u18] 30)) (.cells #[.int .i64 u0, .bool u1, .int .i64 u2, .int .i64 u3, .int .i64 u4, .int .i64 u5, .int .i64 u6, .int .i64 u7, .int .i64 u8, .bool u9, .bool u10, .int .i64 u11, .int .i64 u12, .int .i64 u13, .int .i64 u14, .int .i64 u15, .int .i64 u16, .slice B u17.length d, .string u18] 30)
  obtain ⟨Wa, hWa⟩ : ∃ X, (W.alloc (.cells #[.int .i64 u0, .bool u1, .int .i64 u2, .int .i64 u3, .int .i64 u4, .int .i64 u5, .int .i64 u6, .int .i64 u7, .int .i64 u8, .bool u9, .bool u10, .int .i64 u11, .int .i64 u12, .int .i64 u13, .int .i64 u14, .int .i64 u15, .int .i64 u16, .slice A u17.length c, .string u18] 30)).alloc (.cells #[.int .i64 u0, .bool u1, .int .i64 u2, .int .i64 u3, .int .i64 u4, .int .i64 u5, .int .i64 u6, .int .i64 u7, .int .i64 u8, .bool u9, .bool u10, .int .i64 u11, .int .i64 u12, .int .i64 u13, .int .i64 u14, .int .i64 u15, .int .i64 u16, .slice B u17.length d, .string u18] 30) = X := ⟨_, rfl⟩
  have HXa := Lib.hid (show Wa.heap[W.heap.size]? = some (.cells #[.int .i64 u0, .bool u1, .int .i64 u2, .int .i64 u3, .int .i64 u4, .int .i64 u5, .int .i64 u6, .int .i64 u7, .int .i64 u8, .bool u9, .bool u10, .int .i64 u11, .int .i64 u12, .int .i64 u13, .int .i64 u14, .int .i64 u15, .int .i64 u16, .slice A u17.length c, .string u18] 30 (0, 0)) from by rw [← hWa]; exact (Below.heap_alloc _ _ _ (by simp)).trans (heap_alloc_new W _))
  have HYa := Lib.hid (show Wa.heap[W.heap.size + 1]? = some (.cells #[.int .i64 u0, .bool u1, .int .i64 u2, .int .i64 u3, .int .i64 u4, .int .i64 u5, .int .i64 u6, .int .i64 u7, .int .i64 u8, .bool u9, .bool u10, .int .i64 u11, .int .i64 u12, .int .i64 u13, .int .i64 u14, .int .i64 u15, .int .i64 u16, .slice B u17.length d, .string u18] 30 (0, 0)) from by rw [← hWa]; have h0 := heap_alloc_new (W.alloc (.cells #[.int .i64 u0, .bool u1, .int .i64 u2, .int .i64 u3, .int .i64 u4, .int .i64 u5, .int .i64 u6, .int .i64 u7, .int .i64 u8, .bool u9, .bool u10, .int .i64 u11, .int .i64 u12, .int .i64 u13, .int .i64 u14, .int .i64 u15, .int .i64 u16, .slice A u17.length c, .string u18] 30)) (.cells #[.int .i64 u0, .bool u1, .int .i64 u2, .int .i64 u3, .int .i64 u4, .int .i64 u5, .int .i64 u6, .int .i64 u7, .int .i64 u8, .bool u9, .bool u10, .int .i64 u11, .int .i64 u12, .int .i64 u13, .int .i64 u14, .int .i64 u15, .int .i64 u16, .slice B u17.length d, .string u18] 30); rwa [World.size_alloc] at h0)
  rw [hWa] at hbz
  have HB := Lib.hid hbz
  have H1 := Lib.hid (Kd.C_below h1 hbz)
  have H2 := Lib.hid (Kd.C_below h2 hbz)
  clear h1 h2 hbz
  have y0 : Wa.cell? ⟨W.heap.size, 0, none⟩ = some (.int .i64 u0) := (blk_cell HXa.out 0).trans rfl
  have z0 : Wa.cell? ⟨W.heap.size + 1, 0, none⟩ = some (.int .i64 u0) := (blk_cell HYa.out 0).trans rfl
  have y1 : Wa.cell? ⟨W.heap.size, 1, none⟩ = some (.bool u1) := (blk_cell HXa.out 1).trans rfl
  have z1 : Wa.cell? ⟨W.heap.size + 1, 1, none⟩ = some (.bool u1) := (blk_cell HYa.out 1).trans rfl
  have y2 : Wa.cell? ⟨W.heap.size, 2, none⟩ = some (.int .i64 u2) := (blk_cell HXa.out 2).trans rfl
  have z2 : Wa.cell? ⟨W.heap.size + 1, 2, none⟩ = some (.int .i64 u2) := (blk_cell HYa.out 2).trans rfl
  have y3 : Wa.cell? ⟨W.heap.size, 3, none⟩ = some (.int .i64 u3) := (blk_cell HXa.out 3).trans rfl
  have z3 : Wa.cell? ⟨W.heap.size + 1, 3, none⟩ = some (.int .i64 u3) := (blk_cell HYa.out 3).trans rfl
  have y4 : Wa.cell? ⟨W.heap.size, 4, none⟩ = some (.int .i64 u4) := (blk_cell HXa.out 4).trans rfl
  have z4 : Wa.cell? ⟨W.heap.size + 1, 4, none⟩ = some (.int .i64 u4) := (blk_cell HYa.out 4).trans rfl
  have y5 : Wa.cell? ⟨W.heap.size, 5, none⟩ = some (.int .i64 u5) := (blk_cell HXa.out 5).trans rfl
  have z5 : Wa.cell? ⟨W.heap.size + 1, 5, none⟩ = some (.int .i64 u5) := (blk_cell HYa.out 5).trans rfl
  have y6 : Wa.cell? ⟨W.heap.size, 6, none⟩ = some (.int .i64 u6) := (blk_cell HXa.out 6).trans rfl
  have z6 : Wa.cell? ⟨W.heap.size + 1, 6, none⟩ = some (.int .i64 u6) := (blk_cell HYa.out 6).trans rfl
  have y7 : Wa.cell? ⟨W.heap.size, 7, none⟩ = some (.int .i64 u7) := (blk_cell HXa.out 7).trans rfl
  have z7 : Wa.cell? ⟨W.heap.size + 1, 7, none⟩ = some (.int .i64 u7) := (blk_cell HYa.out 7).trans rfl
  have y8 : Wa.cell? ⟨W.heap.size, 8, none⟩ = some (.int .i64 u8) := (blk_cell HXa.out 8).trans rfl
  have z8 : Wa.cell? ⟨W.heap.size + 1, 8, none⟩ = some (.int .i64 u8) := (blk_cell HYa.out 8).trans rfl
  have y9 : Wa.cell? ⟨W.heap.size, 9, none⟩ = some (.bool u9) := (blk_cell HXa.out 9).trans rfl
  have z9 : Wa.cell? ⟨W.heap.size + 1, 9, none⟩ = some (.bool u9) := (blk_cell HYa.out 9).trans rfl
  have y10 : Wa.cell? ⟨W.heap.size, 10, none⟩ = some (.bool u10) := (blk_cell HXa.out 10).trans rfl
  have z10 : Wa.cell? ⟨W.heap.size + 1, 10, none⟩ = some (.bool u10) := (blk_cell HYa.out 10).trans rfl
  have y11 : Wa.cell? ⟨W.heap.size, 11, none⟩ = some (.int .i64 u11) := (blk_cell HXa.out 11).trans rfl
  have z11 : Wa.cell? ⟨W.heap.size + 1, 11, none⟩ = some (.int .i64 u11) := (blk_cell HYa.out 11).trans rfl
  have y12 : Wa.cell? ⟨W.heap.size, 12, none⟩ = some (.int .i64 u12) := (blk_cell HXa.out 12).trans rfl
  have z12 : Wa.cell? ⟨W.heap.size + 1, 12, none⟩ = some (.int .i64 u12) := (blk_cell HYa.out 12).trans rfl
  have y13 : Wa.cell? ⟨W.heap.size, 13, none⟩ = some (.int .i64 u13) := (blk_cell HXa.out 13).trans rfl
  have z13 : Wa.cell? ⟨W.heap.size + 1, 13, none⟩ = some (.int .i64 u13) := (blk_cell HYa.out 13).trans rfl
  have y14 : Wa.cell? ⟨W.heap.size, 14, none⟩ = some (.int .i64 u14) := (blk_cell HXa.out 14).trans rfl
  have z14 : Wa.cell? ⟨W.heap.size + 1, 14, none⟩ = some (.int .i64 u14) := (blk_cell HYa.out 14).trans rfl
  have y15 : Wa.cell? ⟨W.heap.size, 15, none⟩ = some (.int .i64 u15) := (blk_cell HXa.out 15).trans rfl
  have z15 : Wa.cell? ⟨W.heap.size + 1, 15, none⟩ = some (.int .i64 u15) := (blk_cell HYa.out 15).trans rfl
  have y16 : Wa.cell? ⟨W.heap.size, 16, none⟩ = some (.int .i64 u16) := (blk_cell HXa.out 16).trans rfl
  have z16 : Wa.cell? ⟨W.heap.size + 1, 16, none⟩ = some (.int .i64 u16) := (blk_cell HYa.out 16).trans rfl
  have y17 : Wa.cell? ⟨W.heap.size, 17, none⟩ = some (.slice A u17.length c) := (blk_cell HXa.out 17).trans rfl
  have z17 : Wa.cell? ⟨W.heap.size + 1, 17, none⟩ = some (.slice B u17.length d) := (blk_cell HYa.out 17).trans rfl
  have y18 : Wa.cell? ⟨W.heap.size, 18, none⟩ = some (.string u18) := (blk_cell HXa.out 18).trans rfl
  have z18 : Wa.cell? ⟨W.heap.size + 1, 18, none⟩ = some (.string u18) := (blk_cell HYa.out 18).trans rfl
  go_enter Try.func12, Try.ntmps12
  go_upto_region 1 with (fail)
  try rw [hWa]
  clear hWa
  go_wp2_with fail
  clear y0 z0 y1 z1 y2 z2 y3 z3 y4 z4 y5 z5 y6 z6 y7 z7 y8 z8 y9 z9 y10 z10 y11 z11 y12 z12 y13 z13 y14 z14 y15 z15 y16 z16 y18 z18
  go_loopw [5] (fun p5 wr => ∃ k : Nat, k ≤ u17.length ∧ p5 = .int .i64 k ∧ Hid (wr.heap[W.heap.size]? = some (.cells #[.int .i64 u0, .bool u1, .int .i64 u2, .int .i64 u3, .int .i64 u4, .int .i64 u5, .int .i64 u6, .int .i64 u7, .int .i64 u8, .bool u9, .bool u10, .int .i64 u11, .int .i64 u12, .int .i64 u13, .int .i64 u14, .int .i64 u15, .int .i64 u16, .slice A u17.length c, .string u18] 30 (0, 0))) ∧ Hid (wr.heap[W.heap.size + 1]? = some (.cells #[.int .i64 u0, .bool u1, .int .i64 u2, .int .i64 u3, .int .i64 u4, .int .i64 u5, .int .i64 u6, .int .i64 u7, .int .i64 u8, .bool u9, .bool u10, .int .i64 u11, .int .i64 u12, .int .i64 u13, .int .i64 u14, .int .i64 u15, .int .i64 u16, .slice B u17.length d, .string u18] 30 (0, 0))) ∧ Hid (Kd.C (Kd.int .i64) wr A u17.length u17) ∧ Hid (Kd.C (Kd.int .i64) wr B u17.length u17) ∧ Hid (Below W.heap.size W wr)) (fun p5 _ => u17.length - (intOf p5).toNat)
  case atStart => exact ⟨0, Nat.zero_le _, rfl, HXa, HYa, H1, H2, HB⟩
  case round =>
    clear HXa HYa H1 H2 HB y17 z17
    obtain ⟨k, hk, rfl, HX, HY, H1, H2, HB⟩ := hrel
    have y17 : wr.cell? ⟨W.heap.size, 17, none⟩ = some (.slice A u17.length c) := (blk_cell HX.out 17).trans rfl
    have z17 : wr.cell? ⟨W.heap.size + 1, 17, none⟩ = some (.slice B u17.length d) := (blk_cell HY.out 17).trans rfl
    by_cases hkl : k < u17.length
    · have c0 : decide ((k : Int) < (u17.length : Int)) = true := decide_eq_true (by omega)
      have c1 : decide (k < u17.length) = true := decide_eq_true hkl
      have p0 : (0 : Int) ≤ (k : Int) := by omega
      have p1 : (k : Int) < (u17.length : Int) := by omega
      obtain ⟨ad, rfl, hx⟩ := Kd.at_int H1.out (k : Int) p0 p1
      obtain ⟨bd, rfl, hz⟩ := Kd.at_int H2.out (k : Int) p0 p1
      rw [Int.toNat_natCast] at hx hz
      obtain ⟨v, hv⟩ : ∃ v, rd u17 (k : Int) = v := ⟨_, rfl⟩
      rw [hv] at hx hz
      clear hv
      go_wp2_with fail
      go_quiet (fail)
      go_wp2_with fail
      exact ⟨⟨k + 1, by omega, by push_cast; rfl, Lib.hid (blk_drewN HX.out _), Lib.hid (blk_drewN HY.out _), Lib.hid H1.out, Lib.hid H2.out, Lib.hid (pw_below_drewN HB.out _)⟩, by show u17.length - ((k : Int) + 1).toNat < u17.length - ((k : Int)).toNat; omega⟩
    · have c0 : decide ((k : Int) < (u17.length : Int)) = false := decide_eq_false (by omega)
      have c1 : decide (k < u17.length) = false := decide_eq_false hkl
      go_wp2_with fail
      go_ret
      exact ⟨rfl, HB.out⟩
end Go.Proofs.Ytclikkhkhoicfaa.H
