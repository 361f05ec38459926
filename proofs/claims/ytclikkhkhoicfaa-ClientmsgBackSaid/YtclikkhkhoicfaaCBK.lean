/- ClientmsgBack: what is written is read again, with the fields that it has, whatever stands behind; with a byte less more is needed. No condition. -/
-- OPEN 0 Go.Proofs.Ytclikkhkhoicfaa.RC.open_msg ma mb mc md me mf mg mh mi mj mk ml mm mn mo mp mq mA mz mC mr : na nc nd ne nf ng nh ni nl nm nn no np nq nr ny nw ns
import Derived.Test.YtclikkhkhoicfaaCP
import Derived.Test.YtclikkhkhoicfaaRO
import Derived.Deep.DeepCutAuto
import Derived.Deep.RegionHeld3
import Derived.Test.YtclikkhkhoicfaaXx21
import Derived.Test.YtclikkhkhoicfaaXx29
import Derived.Test.YtclikkhkhoicfaaXx20
import Derived.Test.YtclikkhkhoicfaaXx14
namespace Go.Proofs.Ytclikkhkhoicfaa.H
open Go.RowKit Go.Proofs.YtclikkhkhoicfaaW.PrintWords Go.Proofs.YtclikkhkhoicfaaW.PrintLast Go.Proofs.YtclikkhkhoicfaaW.PrintMore Go.Proofs.Ytclikkhkhoicfaa.B Go.Proofs.Ytclikkhkhoicfaa.O Go.Proofs.Ytclikkhkhoicfaa.F Go.Proofs.Ytclikkhkhoicfaa.X
set_option linter.unusedVariables false
set_option linter.unusedSimpArgs false
section
attribute [local go_sem ↓] exec_store_msg exec_load_msg
attribute [local go_sem] store_msg load_msg
set_option maxHeartbeats 8000000 in
set_option maxRecDepth 100000 in
theorem back_long_z (ma : Int) (mb : Bool) (mc : Int) (md : Int) (me : Int) (mf : Int) (mg : Int) (mh : Int) (mi : Int) (mj : Bool) (mk : Bool) (ml : Int) (mm : Int) (mn : Int) (mo : Int) (mp : Int) (mq : Int) (mA : Option Addr) (mz : List Int) (mC : Nat) (mr t : ByteArray) (W : World) (h1 : 5000 < mz.length) :
    Calls Try.prog 4 #[.agg #[.int .i64 ma, .bool mb, .int .i64 mc, .int .i64 md, .int .i64 me, .int .i64 mf, .int .i64 mg, .int .i64 mh, .int .i64 mi, .bool mj, .bool mk, .int .i64 ml, .int .i64 mm, .int .i64 mn, .int .i64 mo, .int .i64 mp, .int .i64 mq, .slice mA mz.length mC, .string mr], .string t] W fun e W' => e = .returned (.bool true) ∧ Below W.heap.size W W' := by
  have dz1 : decide ((mz.length : Int) > 5000) = true := decide_eq_true (by omega)
  have dz2 : decide (5000 < mz.length) = true := decide_eq_true (by omega)
  have dz3 : decide ((5000 : Int) < (mz.length : Int)) = true := decide_eq_true (by omega)
  clear h1
  obtain ⟨Wa, hWa⟩ : ∃ X, W.alloc (.cells #[.int .i64 ma, .bool mb, .int .i64 mc, .int .i64 md, .int .i64 me, .int .i64 mf, .int .i64 mg, .int .i64 mh, .int .i64 mi, .bool mj, .bool mk, .int .i64 ml, .int .i64 mm, .int .i64 mn, .int .i64 mo, .int .i64 mp, .int .i64 mq, .slice mA mz.length mC, .string mr] 30) = X := ⟨_, rfl⟩
  have HXa := Lib.hid (show Wa.heap[W.heap.size]? = some (.cells #[.int .i64 ma, .bool mb, .int .i64 mc, .int .i64 md, .int .i64 me, .int .i64 mf, .int .i64 mg, .int .i64 mh, .int .i64 mi, .bool mj, .bool mk, .int .i64 ml, .int .i64 mm, .int .i64 mn, .int .i64 mo, .int .i64 mp, .int .i64 mq, .slice mA mz.length mC, .string mr] 30 (0, 0)) from by rw [← hWa]; exact heap_alloc_new W _)
  have HBa := Lib.hid (show Below W.heap.size W Wa from by rw [← hWa]; exact below_alloc (Below.refl _ _) _)
  go_enter Try.func4, Try.ntmps4
  go_upto_region 1 with (fail)
  try rw [hWa]
  clear hWa
  go_wp2_with fail
  refine (X.miradorlaw22_works.calls true Wa X.miradorlaw22_works.at0).mono ?_
  rintro e W1 ⟨rfl, hb⟩
  have HX1 := Lib.hid (blk_below HXa.out hb)
  have HB1 := Lib.hid (HBa.out.trans (Below.mono hb HBa.out.size))
  clear hb HXa HBa
  have y17 : W1.cell? ⟨W.heap.size, 17, none⟩ = some (.slice mA mz.length mC) := (blk_cell HX1.out 17).trans rfl
  have y18 : W1.cell? ⟨W.heap.size, 18, none⟩ = some (.string mr) := (blk_cell HX1.out 18).trans rfl
  go_wp2_with fail
  go_ret
  exact ⟨rfl, HB1.out⟩
set_option maxHeartbeats 8000000 in
set_option maxRecDepth 100000 in
theorem back_long_r (ma : Int) (mb : Bool) (mc : Int) (md : Int) (me : Int) (mf : Int) (mg : Int) (mh : Int) (mi : Int) (mj : Bool) (mk : Bool) (ml : Int) (mm : Int) (mn : Int) (mo : Int) (mp : Int) (mq : Int) (mA : Option Addr) (mz : List Int) (mC : Nat) (mr t : ByteArray) (W : World) (h0 : mz.length ≤ 5000) (h1 : 5000 < mr.size) :
    Calls Try.prog 4 #[.agg #[.int .i64 ma, .bool mb, .int .i64 mc, .int .i64 md, .int .i64 me, .int .i64 mf, .int .i64 mg, .int .i64 mh, .int .i64 mi, .bool mj, .bool mk, .int .i64 ml, .int .i64 mm, .int .i64 mn, .int .i64 mo, .int .i64 mp, .int .i64 mq, .slice mA mz.length mC, .string mr], .string t] W fun e W' => e = .returned (.bool true) ∧ Below W.heap.size W W' := by
  have dz1 : decide ((mz.length : Int) > 5000) = false := decide_eq_false (by omega)
  have dz2 : decide (5000 < mz.length) = false := decide_eq_false (by omega)
  have dz3 : decide ((5000 : Int) < (mz.length : Int)) = false := decide_eq_false (by omega)
  have dr1 : decide ((mr.size : Int) > 5000) = true := decide_eq_true (by omega)
  have dr2 : decide (5000 < mr.size) = true := decide_eq_true (by omega)
  have dr3 : decide ((5000 : Int) < (mr.size : Int)) = true := decide_eq_true (by omega)
  clear h0 h1
  obtain ⟨Wa, hWa⟩ : ∃ X, W.alloc (.cells #[.int .i64 ma, .bool mb, .int .i64 mc, .int .i64 md, .int .i64 me, .int .i64 mf, .int .i64 mg, .int .i64 mh, .int .i64 mi, .bool mj, .bool mk, .int .i64 ml, .int .i64 mm, .int .i64 mn, .int .i64 mo, .int .i64 mp, .int .i64 mq, .slice mA mz.length mC, .string mr] 30) = X := ⟨_, rfl⟩
  have HXa := Lib.hid (show Wa.heap[W.heap.size]? = some (.cells #[.int .i64 ma, .bool mb, .int .i64 mc, .int .i64 md, .int .i64 me, .int .i64 mf, .int .i64 mg, .int .i64 mh, .int .i64 mi, .bool mj, .bool mk, .int .i64 ml, .int .i64 mm, .int .i64 mn, .int .i64 mo, .int .i64 mp, .int .i64 mq, .slice mA mz.length mC, .string mr] 30 (0, 0)) from by rw [← hWa]; exact heap_alloc_new W _)
  have HBa := Lib.hid (show Below W.heap.size W Wa from by rw [← hWa]; exact below_alloc (Below.refl _ _) _)
  go_enter Try.func4, Try.ntmps4
  go_upto_region 1 with (fail)
  try rw [hWa]
  clear hWa
  go_wp2_with fail
  refine (X.miradorlaw22_works.calls true Wa X.miradorlaw22_works.at0).mono ?_
  rintro e W1 ⟨rfl, hb⟩
  have HX1 := Lib.hid (blk_below HXa.out hb)
  have HB1 := Lib.hid (HBa.out.trans (Below.mono hb HBa.out.size))
  clear hb HXa HBa
  have y17 : W1.cell? ⟨W.heap.size, 17, none⟩ = some (.slice mA mz.length mC) := (blk_cell HX1.out 17).trans rfl
  have y18 : W1.cell? ⟨W.heap.size, 18, none⟩ = some (.string mr) := (blk_cell HX1.out 18).trans rfl
  go_wp2_with fail
  go_ret
  exact ⟨rfl, HB1.out⟩
set_option maxHeartbeats 8000000 in
set_option maxRecDepth 100000 in
theorem back_long_t (ma : Int) (mb : Bool) (mc : Int) (md : Int) (me : Int) (mf : Int) (mg : Int) (mh : Int) (mi : Int) (mj : Bool) (mk : Bool) (ml : Int) (mm : Int) (mn : Int) (mo : Int) (mp : Int) (mq : Int) (mA : Option Addr) (mz : List Int) (mC : Nat) (mr t : ByteArray) (W : World) (h0 : mz.length ≤ 5000) (h2 : mr.size ≤ 5000) (h1 : 5000 < t.size) :
    Calls Try.prog 4 #[.agg #[.int .i64 ma, .bool mb, .int .i64 mc, .int .i64 md, .int .i64 me, .int .i64 mf, .int .i64 mg, .int .i64 mh, .int .i64 mi, .bool mj, .bool mk, .int .i64 ml, .int .i64 mm, .int .i64 mn, .int .i64 mo, .int .i64 mp, .int .i64 mq, .slice mA mz.length mC, .string mr], .string t] W fun e W' => e = .returned (.bool true) ∧ Below W.heap.size W W' := by
  have dz1 : decide ((mz.length : Int) > 5000) = false := decide_eq_false (by omega)
  have dz2 : decide (5000 < mz.length) = false := decide_eq_false (by omega)
  have dz3 : decide ((5000 : Int) < (mz.length : Int)) = false := decide_eq_false (by omega)
  have dr1 : decide ((mr.size : Int) > 5000) = false := decide_eq_false (by omega)
  have dr2 : decide (5000 < mr.size) = false := decide_eq_false (by omega)
  have dr3 : decide ((5000 : Int) < (mr.size : Int)) = false := decide_eq_false (by omega)
  have dt1 : decide ((t.size : Int) > 5000) = true := decide_eq_true (by omega)
  have dt2 : decide (5000 < t.size) = true := decide_eq_true (by omega)
  have dt3 : decide ((5000 : Int) < (t.size : Int)) = true := decide_eq_true (by omega)
  clear h0 h1 h2
  obtain ⟨Wa, hWa⟩ : ∃ X, W.alloc (.cells #[.int .i64 ma, .bool mb, .int .i64 mc, .int .i64 md, .int .i64 me, .int .i64 mf, .int .i64 mg, .int .i64 mh, .int .i64 mi, .bool mj, .bool mk, .int .i64 ml, .int .i64 mm, .int .i64 mn, .int .i64 mo, .int .i64 mp, .int .i64 mq, .slice mA mz.length mC, .string mr] 30) = X := ⟨_, rfl⟩
  have HXa := Lib.hid (show Wa.heap[W.heap.size]? = some (.cells #[.int .i64 ma, .bool mb, .int .i64 mc, .int .i64 md, .int .i64 me, .int .i64 mf, .int .i64 mg, .int .i64 mh, .int .i64 mi, .bool mj, .bool mk, .int .i64 ml, .int .i64 mm, .int .i64 mn, .int .i64 mo, .int .i64 mp, .int .i64 mq, .slice mA mz.length mC, .string mr] 30 (0, 0)) from by rw [← hWa]; exact heap_alloc_new W _)
  have HBa := Lib.hid (show Below W.heap.size W Wa from by rw [← hWa]; exact below_alloc (Below.refl _ _) _)
  go_enter Try.func4, Try.ntmps4
  go_upto_region 1 with (fail)
  try rw [hWa]
  clear hWa
  go_wp2_with fail
  refine (X.miradorlaw22_works.calls true Wa X.miradorlaw22_works.at0).mono ?_
  rintro e W1 ⟨rfl, hb⟩
  have HX1 := Lib.hid (blk_below HXa.out hb)
  have HB1 := Lib.hid (HBa.out.trans (Below.mono hb HBa.out.size))
  clear hb HXa HBa
  have y17 : W1.cell? ⟨W.heap.size, 17, none⟩ = some (.slice mA mz.length mC) := (blk_cell HX1.out 17).trans rfl
  have y18 : W1.cell? ⟨W.heap.size, 18, none⟩ = some (.string mr) := (blk_cell HX1.out 18).trans rfl
  go_wp2_with fail
  go_ret
  exact ⟨rfl, HB1.out⟩
set_option maxHeartbeats 8000000 in
set_option maxRecDepth 100000 in
theorem back_bad (ma : Int) (mb : Bool) (mc : Int) (md : Int) (me : Int) (mf : Int) (mg : Int) (mh : Int) (mi : Int) (mj : Bool) (mk : Bool) (ml : Int) (mm : Int) (mn : Int) (mo : Int) (mp : Int) (mq : Int) (mA : Option Addr) (mz : List Int) (mC : Nat) (mr t : ByteArray) (W : World) (nr : Kd.C (Kd.int .i64) W mA mz.length mz) (ny : mz.length ≤ mC) (nw : ∀ n ∈ mz, (Lit.int .i64 n).wf = true) (h0 : mz.length ≤ 5000) (h1 : mr.size ≤ 5000) (h2 : t.size ≤ 5000) (s : ByteArray) (e0 : Int) (eb : clientmsg_Bytes.f ma mb mc md me mf mg mh mi mj mk ml mm mn mo mp mq mz mr = some (s, e0)) (he : e0 ≠ 0) (hs : s = ⟨#[]⟩) :
    Calls Try.prog 4 #[.agg #[.int .i64 ma, .bool mb, .int .i64 mc, .int .i64 md, .int .i64 me, .int .i64 mf, .int .i64 mg, .int .i64 mh, .int .i64 mi, .bool mj, .bool mk, .int .i64 ml, .int .i64 mm, .int .i64 mn, .int .i64 mo, .int .i64 mp, .int .i64 mq, .slice mA mz.length mC, .string mr], .string t] W fun e W' => e = .returned (.bool true) ∧ Below W.heap.size W W' := by
  subst hs
  have d1 : (e0 != 0) = true := by simpa using he
  have HNR := Lib.hid nr
  have HNY := Lib.hid ny
  have EB := Lib.hid eb
  have s := (⟨#[]⟩ : ByteArray)
  clear he nr ny nw eb
  obtain ⟨s, hs⟩ : ∃ s : ByteArray, (⟨#[]⟩ : ByteArray) = s := ⟨_, rfl⟩
  rw [hs] at EB
  have dz1 : decide ((mz.length : Int) > 5000) = false := decide_eq_false (by omega)
  have dz2 : decide (5000 < mz.length) = false := decide_eq_false (by omega)
  have dz3 : decide ((5000 : Int) < (mz.length : Int)) = false := decide_eq_false (by omega)
  have dr1 : decide ((mr.size : Int) > 5000) = false := decide_eq_false (by omega)
  have dr2 : decide (5000 < mr.size) = false := decide_eq_false (by omega)
  have dr3 : decide ((5000 : Int) < (mr.size : Int)) = false := decide_eq_false (by omega)
  have dt1 : decide ((t.size : Int) > 5000) = false := decide_eq_false (by omega)
  have dt2 : decide (5000 < t.size) = false := decide_eq_false (by omega)
  have dt3 : decide ((5000 : Int) < (t.size : Int)) = false := decide_eq_false (by omega)
  clear h0 h1 h2
  obtain ⟨Wa, hWa⟩ : ∃ X, W.alloc (.cells #[.int .i64 ma, .bool mb, .int .i64 mc, .int .i64 md, .int .i64 me, .int .i64 mf, .int .i64 mg, .int .i64 mh, .int .i64 mi, .bool mj, .bool mk, .int .i64 ml, .int .i64 mm, .int .i64 mn, .int .i64 mo, .int .i64 mp, .int .i64 mq, .slice mA mz.length mC, .string mr] 30) = X := ⟨_, rfl⟩
  have HXa := Lib.hid (show Wa.heap[W.heap.size]? = some (.cells #[.int .i64 ma, .bool mb, .int .i64 mc, .int .i64 md, .int .i64 me, .int .i64 mf, .int .i64 mg, .int .i64 mh, .int .i64 mi, .bool mj, .bool mk, .int .i64 ml, .int .i64 mm, .int .i64 mn, .int .i64 mo, .int .i64 mp, .int .i64 mq, .slice mA mz.length mC, .string mr] 30 (0, 0)) from by rw [← hWa]; exact heap_alloc_new W _)
  have HBa := Lib.hid (show Below W.heap.size W Wa from by rw [← hWa]; exact below_alloc (Below.refl _ _) _)
  go_enter Try.func4, Try.ntmps4
  go_upto_region 1 with (fail)
  try rw [hWa]
  clear hWa
  go_wp2_with fail
  refine (X.miradorlaw22_works.calls true Wa X.miradorlaw22_works.at0).mono ?_
  rintro e W1 ⟨rfl, hb⟩
  have HX1 := Lib.hid (blk_below HXa.out hb)
  have HB1 := Lib.hid (HBa.out.trans (Below.mono hb HBa.out.size))
  clear hb HXa HBa
  have y17 : W1.cell? ⟨W.heap.size, 17, none⟩ = some (.slice mA mz.length mC) := (blk_cell HX1.out 17).trans rfl
  have y18 : W1.cell? ⟨W.heap.size, 18, none⟩ = some (.string mr) := (blk_cell HX1.out 18).trans rfl
  have a1 : X.rowAt W1 W.heap.size 30 19 = true := X.rowAt_of HX1.out rfl
  have a2 : X.cellsAt W1 W.heap.size = #[.int .i64 ma, .bool mb, .int .i64 mc, .int .i64 md, .int .i64 me, .int .i64 mf, .int .i64 mg, .int .i64 mh, .int .i64 mi, .bool mj, .bool mk, .int .i64 ml, .int .i64 mm, .int .i64 mn, .int .i64 mo, .int .i64 mp, .int .i64 mq, .slice mA mz.length mC, .string mr] := X.cellsAt_of HX1.out
  go_wp2_with fail
  refine (X.clientmsg_Bytes.calls ma mb mc md me mf mg mh mi mj mk ml mm mn mo mp mq mA mC mz mr s e0 W1 (Kd.C_below HNR.out HB1.out) HNY.out EB.out).mono ?_
  rintro e W2 ⟨rfl, hb⟩
  have HX2 := Lib.hid (blk_below HX1.out hb)
  have HB2 := Lib.hid (HB1.out.trans (Below.mono hb HB1.out.size))
  clear hb HX1 HB1 a1 a2 y17 y18
  subst hs
  go_wp2_with fail
  go_ret
  exact ⟨by simp, HB2.out⟩
set_option maxHeartbeats 8000000 in
set_option maxRecDepth 100000 in
theorem back_ok (ma : Int) (mb : Bool) (mc : Int) (md : Int) (me : Int) (mf : Int) (mg : Int) (mh : Int) (mi : Int) (mj : Bool) (mk : Bool) (ml : Int) (mm : Int) (mn : Int) (mo : Int) (mp : Int) (mq : Int) (mA : Option Addr) (mz : List Int) (mC : Nat) (mr t : ByteArray) (W : World) (nr : Kd.C (Kd.int .i64) W mA mz.length mz) (ny : mz.length ≤ mC) (nw : ∀ n ∈ mz, (Lit.int .i64 n).wf = true) (h0 : mz.length ≤ 5000) (h1 : mr.size ≤ 5000) (h2 : t.size ≤ 5000) (s : ByteArray) (u0 : Int) (u1 : Bool) (u2 : Int) (u3 : Int) (u4 : Int) (u5 : Int) (u6 : Int) (u7 : Int) (u8 : Int) (u9 : Bool) (u10 : Bool) (u11 : Int) (u12 : Int) (u13 : Int) (u14 : Int) (u15 : Int) (u16 : Int) (u17 : List Int) (u18 : ByteArray) (z0 : Int) (z1 : Bool) (z2 : Int) (z3 : Int) (z4 : Int) (z5 : Int) (z6 : Int) (z7 : Int) (z8 : Int) (z9 : Bool) (z10 : Bool) (z11 : Int) (z12 : Int) (z13 : Int) (z14 : Int) (z15 : Int) (z16 : Int) (z17 : List Int) (z18 : ByteArray) (eb : clientmsg_Bytes.f ma mb mc md me mf mg mh mi mj mk ml mm mn mo mp mq mz mr = some (s, 0)) (ep : clientmsg_Parse.f (s ++ t) = some (u0, u1, u2, u3, u4, u5, u6, u7, u8, u9, u10, u11, u12, u13, u14, u15, u16, u17, u18, (s.size : Int), 0)) (eq : plainF ma mb mc md me mf mg mh mi mj mk ml mm mn mo mp mq mz mr = (u0, u1, u2, u3, u4, u5, u6, u7, u8, u9, u10, u11, u12, u13, u14, u15, u16, u17, u18)) (es : miradorref22_Same.f 400 u0 u1 u2 u3 u4 u5 u6 u7 u8 u9 u10 u11 u12 u13 u14 u15 u16 u17 u18 u0 u1 u2 u3 u4 u5 u6 u7 u8 u9 u10 u11 u12 u13 u14 u15 u16 u17 u18 = some true) (hs2 : 2 ≤ s.size) (hs3 : s.size ≤ 10000) (ec : clientmsg_Parse.f (s.extract 0 (s.size - 1)) = some (z0, z1, z2, z3, z4, z5, z6, z7, z8, z9, z10, z11, z12, z13, z14, z15, z16, z17, z18, 0, 2)) :
    Calls Try.prog 4 #[.agg #[.int .i64 ma, .bool mb, .int .i64 mc, .int .i64 md, .int .i64 me, .int .i64 mf, .int .i64 mg, .int .i64 mh, .int .i64 mi, .bool mj, .bool mk, .int .i64 ml, .int .i64 mm, .int .i64 mn, .int .i64 mo, .int .i64 mp, .int .i64 mq, .slice mA mz.length mC, .string mr], .string t] W fun e W' => e = .returned (.bool true) ∧ Below W.heap.size W W' := by
  have HNR := Lib.hid nr
  have HNY := Lib.hid ny
  have EB := Lib.hid eb
  have EP := Lib.hid ep
  have EQ := Lib.hid eq
  have ES := Lib.hid es
  have EC := Lib.hid ec
  have HS2 := Lib.hid hs2
  have HS3 := Lib.hid hs3
  have hsz : s.size + t.size ≤ 9223372036854775807 := by omega
  clear nr ny nw eb ep eq es ec
  have HSZ := Lib.hid (And.intro hs2 hs3)
  obtain ⟨e0, he0⟩ : ∃ e : Int, 0 = e := ⟨_, rfl⟩
  rw [he0] at EB
  clear hs2 hs3
  have dz1 : decide ((mz.length : Int) > 5000) = false := decide_eq_false (by omega)
  have dz2 : decide (5000 < mz.length) = false := decide_eq_false (by omega)
  have dz3 : decide ((5000 : Int) < (mz.length : Int)) = false := decide_eq_false (by omega)
  have dr1 : decide ((mr.size : Int) > 5000) = false := decide_eq_false (by omega)
  have dr2 : decide (5000 < mr.size) = false := decide_eq_false (by omega)
  have dr3 : decide ((5000 : Int) < (mr.size : Int)) = false := decide_eq_false (by omega)
  have dt1 : decide ((t.size : Int) > 5000) = false := decide_eq_false (by omega)
  have dt2 : decide (5000 < t.size) = false := decide_eq_false (by omega)
  have dt3 : decide ((5000 : Int) < (t.size : Int)) = false := decide_eq_false (by omega)
  clear h0 h1 h2
  obtain ⟨Wa, hWa⟩ : ∃ X, W.alloc (.cells #[.int .i64 ma, .bool mb, .int .i64 mc, .int .i64 md, .int .i64 me, .int .i64 mf, .int .i64 mg, .int .i64 mh, .int .i64 mi, .bool mj, .bool mk, .int .i64 ml, .int .i64 mm, .int .i64 mn, .int .i64 mo, .int .i64 mp, .int .i64 mq, .slice mA mz.length mC, .string mr] 30) = X := ⟨_, rfl⟩
  have HXa := Lib.hid (show Wa.heap[W.heap.size]? = some (.cells #[.int .i64 ma, .bool mb, .int .i64 mc, .int .i64 md, .int .i64 me, .int .i64 mf, .int .i64 mg, .int .i64 mh, .int .i64 mi, .bool mj, .bool mk, .int .i64 ml, .int .i64 mm, .int .i64 mn, .int .i64 mo, .int .i64 mp, .int .i64 mq, .slice mA mz.length mC, .string mr] 30 (0, 0)) from by rw [← hWa]; exact heap_alloc_new W _)
  have HBa := Lib.hid (show Below W.heap.size W Wa from by rw [← hWa]; exact below_alloc (Below.refl _ _) _)
  go_enter Try.func4, Try.ntmps4
  go_upto_region 1 with (fail)
  try rw [hWa]
  clear hWa
  go_wp2_with fail
  refine (X.miradorlaw22_works.calls true Wa X.miradorlaw22_works.at0).mono ?_
  rintro e W1 ⟨rfl, hb⟩
  have HX1 := Lib.hid (blk_below HXa.out hb)
  have HB1 := Lib.hid (HBa.out.trans (Below.mono hb HBa.out.size))
  clear hb HXa HBa
  have y17 : W1.cell? ⟨W.heap.size, 17, none⟩ = some (.slice mA mz.length mC) := (blk_cell HX1.out 17).trans rfl
  have y18 : W1.cell? ⟨W.heap.size, 18, none⟩ = some (.string mr) := (blk_cell HX1.out 18).trans rfl
  have a1 : X.rowAt W1 W.heap.size 30 19 = true := X.rowAt_of HX1.out rfl
  have a2 : X.cellsAt W1 W.heap.size = #[.int .i64 ma, .bool mb, .int .i64 mc, .int .i64 md, .int .i64 me, .int .i64 mf, .int .i64 mg, .int .i64 mh, .int .i64 mi, .bool mj, .bool mk, .int .i64 ml, .int .i64 mm, .int .i64 mn, .int .i64 mo, .int .i64 mp, .int .i64 mq, .slice mA mz.length mC, .string mr] := X.cellsAt_of HX1.out
  go_wp2_with fail
  refine (X.clientmsg_Bytes.calls ma mb mc md me mf mg mh mi mj mk ml mm mn mo mp mq mA mC mz mr s e0 W1 (Kd.C_below HNR.out HB1.out) HNY.out EB.out).mono ?_
  rintro e W2 ⟨rfl, hb⟩
  have HX2 := Lib.hid (blk_below HX1.out hb)
  have HB2 := Lib.hid (HB1.out.trans (Below.mono hb HB1.out.size))
  clear hb HX1 HB1 a1 a2 y17 y18
  subst he0
  go_wp2_with fail
  refine (X.clientmsg_Parse.calls (s ++ t) u0 u1 u2 u3 u4 u5 u6 u7 u8 u9 u10 u11 u12 u13 u14 u15 u16 u17 u18 (s.size : Int) 0 W2 EP.out).mono ?_
  rintro e W3 ⟨v3, rfl, hR, hb⟩
  obtain ⟨A3, c3, rfl, hc3, hC3⟩ := Kd.R_reads hR
  have HX3 := Lib.hid (blk_below HX2.out hb)
  have HB3 := Lib.hid (HB2.out.trans (Below.mono hb HB2.out.size))
  have hl3 := blk_lt HX3.out
  have hbz := below_alloc (Below.refl W3.heap.size W3) (.cells #[.int .i64 0, .bool false, .int .i64 0, .int .i64 0, .int .i64 0, .int .i64 0, .int .i64 0, .int .i64 0, .int .i64 0, .bool false, .bool false, .int .i64 0, .int .i64 0, .int .i64 0, .int .i64 0, .int .i64 0, .int .i64 0, .slice none 0 0, .string ⟨#[]⟩] 30)
  have hrow : X.rowAt (W3.alloc (.cells #[.int .i64 0, .bool false, .int .i64 0, .int .i64 0, .int .i64 0, .int .i64 0, .int .i64 0, .int .i64 0, .int .i64 0, .bool false, .bool false, .int .i64 0, .int .i64 0, .int .i64 0, .int .i64 0, .int .i64 0, .int .i64 0, .slice none 0 0, .string ⟨#[]⟩] 30)) W3.heap.size 30 19 = true := X.rowAt_of (heap_alloc_new W3 _) rfl
  obtain ⟨Wn, hWn⟩ : ∃ Y, (W3.alloc (.cells #[.int .i64 0, .bool false, .int .i64 0, .int .i64 0, .int .i64 0, .int .i64 0, .int .i64 0, .int .i64 0, .int .i64 0, .bool false, .bool false, .int .i64 0, .int .i64 0, .int .i64 0, .int .i64 0, .int .i64 0, .int .i64 0, .slice none 0 0, .string ⟨#[]⟩] 30)).setRow W3.heap.size #[.int .i64 u0, .bool u1, .int .i64 u2, .int .i64 u3, .int .i64 u4, .int .i64 u5, .int .i64 u6, .int .i64 u7, .int .i64 u8, .bool u9, .bool u10, .int .i64 u11, .int .i64 u12, .int .i64 u13, .int .i64 u14, .int .i64 u15, .int .i64 u16, .slice A3 u17.length c3, .string u18] = Y := ⟨_, rfl⟩
  have hbn := X.below_row (g := W3.heap.size) hbz (Nat.le_refl _) #[.int .i64 u0, .bool u1, .int .i64 u2, .int .i64 u3, .int .i64 u4, .int .i64 u5, .int .i64 u6, .int .i64 u7, .int .i64 u8, .bool u9, .bool u10, .int .i64 u11, .int .i64 u12, .int .i64 u13, .int .i64 u14, .int .i64 u15, .int .i64 u16, .slice A3 u17.length c3, .string u18]
  rw [hWn] at hbn
  have HBn := Lib.hid (HB3.out.trans (Below.mono hbn HB3.out.size))
  have HXn := Lib.hid (blk_below HX3.out hbn)
  have HYn := Lib.hid (show Wn.heap[W3.heap.size]? = some (.cells #[.int .i64 u0, .bool u1, .int .i64 u2, .int .i64 u3, .int .i64 u4, .int .i64 u5, .int .i64 u6, .int .i64 u7, .int .i64 u8, .bool u9, .bool u10, .int .i64 u11, .int .i64 u12, .int .i64 u13, .int .i64 u14, .int .i64 u15, .int .i64 u16, .slice A3 u17.length c3, .string u18] 30 (0, 0)) from by rw [← hWn]; exact setRow_heap _ _ _ _ _ _ (heap_alloc_new W3 _))
  have HCn := Lib.hid (Kd.C_below hC3 hbn)
  have HC3 := Lib.hid hc3
  have HMn := Lib.hid (Kd.C_below HNR.out HBn.out)
  clear hR hC3 hc3 hb hbz hbn hl3 HX2 HB2 HX3 HB3 EB EP
  go_upto_region 10 with (fail)
  try rw [hWn]
  clear hWn hrow
  have g01 : X.rowAt Wn W.heap.size 30 19 = true := X.rowAt_of HXn.out rfl
  have g02 : X.cellsAt Wn W.heap.size = #[.int .i64 ma, .bool mb, .int .i64 mc, .int .i64 md, .int .i64 me, .int .i64 mf, .int .i64 mg, .int .i64 mh, .int .i64 mi, .bool mj, .bool mk, .int .i64 ml, .int .i64 mm, .int .i64 mn, .int .i64 mo, .int .i64 mp, .int .i64 mq, .slice mA mz.length mC, .string mr] := X.cellsAt_of HXn.out
  have g03 : X.rowAt Wn W3.heap.size 30 19 = true := X.rowAt_of HYn.out rfl
  have g04 : X.cellsAt Wn W3.heap.size = #[.int .i64 u0, .bool u1, .int .i64 u2, .int .i64 u3, .int .i64 u4, .int .i64 u5, .int .i64 u6, .int .i64 u7, .int .i64 u8, .bool u9, .bool u10, .int .i64 u11, .int .i64 u12, .int .i64 u13, .int .i64 u14, .int .i64 u15, .int .i64 u16, .slice A3 u17.length c3, .string u18] := X.cellsAt_of HYn.out
  have g11 : X.rowAt Wn.drew W.heap.size 30 19 = true := X.rowAt_of (blk_drew HXn.out) rfl
  have g12 : X.cellsAt Wn.drew W.heap.size = #[.int .i64 ma, .bool mb, .int .i64 mc, .int .i64 md, .int .i64 me, .int .i64 mf, .int .i64 mg, .int .i64 mh, .int .i64 mi, .bool mj, .bool mk, .int .i64 ml, .int .i64 mm, .int .i64 mn, .int .i64 mo, .int .i64 mp, .int .i64 mq, .slice mA mz.length mC, .string mr] := X.cellsAt_of (blk_drew HXn.out)
  have g13 : X.rowAt Wn.drew W3.heap.size 30 19 = true := X.rowAt_of (blk_drew HYn.out) rfl
  have g14 : X.cellsAt Wn.drew W3.heap.size = #[.int .i64 u0, .bool u1, .int .i64 u2, .int .i64 u3, .int .i64 u4, .int .i64 u5, .int .i64 u6, .int .i64 u7, .int .i64 u8, .bool u9, .bool u10, .int .i64 u11, .int .i64 u12, .int .i64 u13, .int .i64 u14, .int .i64 u15, .int .i64 u16, .slice A3 u17.length c3, .string u18] := X.cellsAt_of (blk_drew HYn.out)
  go_cut [11] (fun s11 wx => s11 = .bool true ∧ Hid (Below W.heap.size W wx))
  case first =>
    go_region_held3 (fun w' => X.rowAt w' W.heap.size 30 19 = true ∧ X.cellsAt w' W.heap.size = #[.int .i64 ma, .bool mb, .int .i64 mc, .int .i64 md, .int .i64 me, .int .i64 mf, .int .i64 mg, .int .i64 mh, .int .i64 mi, .bool mj, .bool mk, .int .i64 ml, .int .i64 mm, .int .i64 mn, .int .i64 mo, .int .i64 mp, .int .i64 mq, .slice mA mz.length mC, .string mr] ∧ X.rowAt w' W3.heap.size 30 19 = true ∧ X.cellsAt w' W3.heap.size = #[.int .i64 u0, .bool u1, .int .i64 u2, .int .i64 u3, .int .i64 u4, .int .i64 u5, .int .i64 u6, .int .i64 u7, .int .i64 u8, .bool u9, .bool u10, .int .i64 u11, .int .i64 u12, .int .i64 u13, .int .i64 u14, .int .i64 u15, .int .i64 u16, .slice A3 u17.length c3, .string u18]) (first | go_keep | exact ⟨k51, k52, k53, k54⟩ | exact ⟨k61, k62, k63, k64⟩) (first | (go_at_call 14; (with_reducible refine (plain_c ma mb mc md me mf mg mh mi mj mk ml mm mn mo mp mq mz mr mA mC u0 u1 u2 u3 u4 u5 u6 u7 u8 u9 u10 u11 u12 u13 u14 u15 u16 u17 u18 _ (by first | with_reducible exact HMn.out | with_reducible exact Kd.C_drew HMn.out) HNY.out EQ.out).mono ?_); rintro en W5 ⟨A5, c5, rfl, hC5, hc5, hb5⟩; have HP5 := Lib.hid hC5; have HQ5 := Lib.hid hc5; have HX5 := Lib.hid (show W5.heap[W.heap.size]? = some (.cells #[.int .i64 ma, .bool mb, .int .i64 mc, .int .i64 md, .int .i64 me, .int .i64 mf, .int .i64 mg, .int .i64 mh, .int .i64 mi, .bool mj, .bool mk, .int .i64 ml, .int .i64 mm, .int .i64 mn, .int .i64 mo, .int .i64 mp, .int .i64 mq, .slice mA mz.length mC, .string mr] 30 (0, 0)) from by first | exact blk_below HXn.out hb5 | exact blk_below (blk_drew HXn.out) hb5); have HY5 := Lib.hid (show W5.heap[W3.heap.size]? = some (.cells #[.int .i64 u0, .bool u1, .int .i64 u2, .int .i64 u3, .int .i64 u4, .int .i64 u5, .int .i64 u6, .int .i64 u7, .int .i64 u8, .bool u9, .bool u10, .int .i64 u11, .int .i64 u12, .int .i64 u13, .int .i64 u14, .int .i64 u15, .int .i64 u16, .slice A3 u17.length c3, .string u18] 30 (0, 0)) from by first | exact blk_below HYn.out hb5 | exact blk_below (blk_drew HYn.out) hb5); have HB5 := Lib.hid (show Below W.heap.size W W5 from by first | exact HBn.out.trans (Below.mono hb5 HBn.out.size) | exact (Below.drew HBn.out).trans (Below.mono hb5 (Below.drew HBn.out).size)); have HN5 := Lib.hid (show Kd.C (Kd.int .i64) W5 A3 u17.length u17 from by first | exact Kd.C_below HCn.out hb5 | exact Kd.C_below (Kd.C_drew HCn.out) hb5); have k51 : X.rowAt W5 W.heap.size 30 19 = true := X.rowAt_of HX5.out rfl; have k52 : X.cellsAt W5 W.heap.size = #[.int .i64 ma, .bool mb, .int .i64 mc, .int .i64 md, .int .i64 me, .int .i64 mf, .int .i64 mg, .int .i64 mh, .int .i64 mi, .bool mj, .bool mk, .int .i64 ml, .int .i64 mm, .int .i64 mn, .int .i64 mo, .int .i64 mp, .int .i64 mq, .slice mA mz.length mC, .string mr] := X.cellsAt_of HX5.out; have k53 : X.rowAt W5 W3.heap.size 30 19 = true := X.rowAt_of HY5.out rfl; have k54 : X.cellsAt W5 W3.heap.size = #[.int .i64 u0, .bool u1, .int .i64 u2, .int .i64 u3, .int .i64 u4, .int .i64 u5, .int .i64 u6, .int .i64 u7, .int .i64 u8, .bool u9, .bool u10, .int .i64 u11, .int .i64 u12, .int .i64 u13, .int .i64 u14, .int .i64 u15, .int .i64 u16, .slice A3 u17.length c3, .string u18] := X.cellsAt_of HY5.out; clear hC5 hc5 hb5) | (go_at_call 12; (with_reducible refine (X.miradorref22_Same.calls 400 u0 u1 u2 u3 u4 u5 u6 u7 u8 u9 u10 u11 u12 u13 u14 u15 u16 A3 c3 u17 u18 u0 u1 u2 u3 u4 u5 u6 u7 u8 u9 u10 u11 u12 u13 u14 u15 u16 A5 c5 u17 u18 true _ (by first | with_reducible exact HN5.out | with_reducible exact Kd.C_drew HN5.out) HC3.out (by first | with_reducible exact HP5.out | with_reducible exact Kd.C_drew HP5.out) HQ5.out ES.out).mono ?_); rintro en W6 ⟨rfl, hb6⟩; have HB6 := Lib.hid (show Below W.heap.size W W6 from by first | exact HB5.out.trans (Below.mono hb6 HB5.out.size) | exact (Below.drew HB5.out).trans (Below.mono hb6 (Below.drew HB5.out).size)); have HX6 := Lib.hid (show W6.heap[W.heap.size]? = some (.cells #[.int .i64 ma, .bool mb, .int .i64 mc, .int .i64 md, .int .i64 me, .int .i64 mf, .int .i64 mg, .int .i64 mh, .int .i64 mi, .bool mj, .bool mk, .int .i64 ml, .int .i64 mm, .int .i64 mn, .int .i64 mo, .int .i64 mp, .int .i64 mq, .slice mA mz.length mC, .string mr] 30 (0, 0)) from by first | exact blk_below HX5.out hb6 | exact blk_below (blk_drew HX5.out) hb6); have HY6 := Lib.hid (show W6.heap[W3.heap.size]? = some (.cells #[.int .i64 u0, .bool u1, .int .i64 u2, .int .i64 u3, .int .i64 u4, .int .i64 u5, .int .i64 u6, .int .i64 u7, .int .i64 u8, .bool u9, .bool u10, .int .i64 u11, .int .i64 u12, .int .i64 u13, .int .i64 u14, .int .i64 u15, .int .i64 u16, .slice A3 u17.length c3, .string u18] 30 (0, 0)) from by first | exact blk_below HY5.out hb6 | exact blk_below (blk_drew HY5.out) hb6); have k61 : X.rowAt W6 W.heap.size 30 19 = true := X.rowAt_of HX6.out rfl; have k62 : X.cellsAt W6 W.heap.size = #[.int .i64 ma, .bool mb, .int .i64 mc, .int .i64 md, .int .i64 me, .int .i64 mf, .int .i64 mg, .int .i64 mh, .int .i64 mi, .bool mj, .bool mk, .int .i64 ml, .int .i64 mm, .int .i64 mn, .int .i64 mo, .int .i64 mp, .int .i64 mq, .slice mA mz.length mC, .string mr] := X.cellsAt_of HX6.out; have k63 : X.rowAt W6 W3.heap.size 30 19 = true := X.rowAt_of HY6.out rfl; have k64 : X.cellsAt W6 W3.heap.size = #[.int .i64 u0, .bool u1, .int .i64 u2, .int .i64 u3, .int .i64 u4, .int .i64 u5, .int .i64 u6, .int .i64 u7, .int .i64 u8, .bool u9, .bool u10, .int .i64 u11, .int .i64 u12, .int .i64 u13, .int .i64 u14, .int .i64 u15, .int .i64 u16, .slice A3 u17.length c3, .string u18] := X.cellsAt_of HY6.out; clear hb6))
    all_goals
      go_wp2_with fail
      go_meet
      first | exact ⟨rfl, HB6⟩ | exact HB6
  case rest =>
    obtain ⟨rfl, HBx⟩ := hcut
    clear g01 g02 g03 g04 g11 g12 g13 g14
    have hs2 := HSZ.out.1
    have hs3 := HSZ.out.2
    have q1 : ((s.size : Int) != (s.size : Int)) = false := by simp
    have q2 : decide ((s.size : Int) < 2) = false := decide_eq_false (by omega)
    have q3 : decide (s.size < 2) = false := decide_eq_false (by omega)
    have q4 : wrap64 ((s.size : Int) - 1) = ((s.size - 1 : Nat) : Int) := by unfold wrap64; omega
    have q5 : (0 : Int) ≤ ((s.size - 1 : Nat) : Int) := by omega
    have q6 : ((s.size - 1 : Nat) : Int) ≤ (s.size : Int) := by omega
    go_wp2_with fail
    refine (X.clientmsg_Parse.calls (s.extract 0 (s.size - 1)) z0 z1 z2 z3 z4 z5 z6 z7 z8 z9 z10 z11 z12 z13 z14 z15 z16 z17 z18 0 2 _ EC.out).mono ?_
    rintro e W7 ⟨v7, rfl, hR7, hb7⟩
    obtain ⟨A7, c7, rfl⟩ := Kd.R_slice hR7
    have HB7 := Lib.hid (HBx.out.trans (Below.mono hb7 HBx.out.size))
    have hrow7 : X.rowAt (W7.alloc (.cells #[.int .i64 0, .bool false, .int .i64 0, .int .i64 0, .int .i64 0, .int .i64 0, .int .i64 0, .int .i64 0, .int .i64 0, .bool false, .bool false, .int .i64 0, .int .i64 0, .int .i64 0, .int .i64 0, .int .i64 0, .int .i64 0, .slice none 0 0, .string ⟨#[]⟩] 30)) W7.heap.size 30 19 = true := X.rowAt_of (heap_alloc_new W7 _) rfl
    have HBz := Lib.hid (X.below_row (g := W7.heap.size) (HB7.out.trans (Below.mono (below_alloc (Below.refl W7.heap.size W7) (.cells #[.int .i64 0, .bool false, .int .i64 0, .int .i64 0, .int .i64 0, .int .i64 0, .int .i64 0, .int .i64 0, .int .i64 0, .bool false, .bool false, .int .i64 0, .int .i64 0, .int .i64 0, .int .i64 0, .int .i64 0, .int .i64 0, .slice none 0 0, .string ⟨#[]⟩] 30)) HB7.out.size)) HB7.out.size #[.int .i64 z0, .bool z1, .int .i64 z2, .int .i64 z3, .int .i64 z4, .int .i64 z5, .int .i64 z6, .int .i64 z7, .int .i64 z8, .bool z9, .bool z10, .int .i64 z11, .int .i64 z12, .int .i64 z13, .int .i64 z14, .int .i64 z15, .int .i64 z16, .slice A7 z17.length c7, .string z18])
    clear hR7 hb7
    go_wp2_with fail
    go_ret
    exact ⟨rfl, HBz.out⟩
end
end Go.Proofs.Ytclikkhkhoicfaa.H
