/- ClientmsgMore: what is read of a text is read of a longer one, too; what can't be stays so; and what is read is written as so many bytes. No condition. -/
import Derived.Test.YtclikkhkhoicfaaCL6
import Derived.Deep.DeepCutAuto
import Derived.Deep.RegionHeld3
import Derived.Test.YtclikkhkhoicfaaXx21
import Derived.Test.YtclikkhkhoicfaaXx29
import Derived.Test.YtclikkhkhoicfaaXx20
import Derived.Test.YtclikkhkhoicfaaXx14
namespace Go.Proofs.Ytclikkhkhoicfaa.H
open Go.RowKit Go.Proofs.YtclikkhkhoicfaaW.PrintWords Go.Proofs.YtclikkhkhoicfaaW.PrintLast Go.Proofs.YtclikkhkhoicfaaW.PrintMore Go.Proofs.Ytclikkhkhoicfaa.B Go.Proofs.Ytclikkhkhoicfaa.O Go.Proofs.Ytclikkhkhoicfaa.F Go.Proofs.Ytclikkhkhoicfaa.X
set_option linter.unusedVariables false
set_option linter.unusedSimpArgs false
section
attribute [local go_sem ↓] exec_store_msg exec_load_msg
attribute [local go_sem] store_msg load_msg
set_option maxHeartbeats 8000000 in
set_option maxRecDepth 100000 in
theorem more_long0 (a0 a1 : ByteArray) (W : World) (h : 5000 < a0.size) :
    Calls Try.prog 5 #[.string a0, .string a1] W fun e W' => e = .returned (.bool true) ∧ Below W.heap.size W W' := by
  have c0 : decide ((a0.size : Int) > 5000) = true := decide_eq_true (by omega)
  have c1 : decide (5000 < a0.size) = true := decide_eq_true (by omega)
  have c2 : decide ((5000 : Int) < (a0.size : Int)) = true := decide_eq_true (by omega)
  clear h
  go_enter Try.func5, Try.ntmps5
  go_wp2_with fail
  refine (X.miradorlaw22_works.calls true W X.miradorlaw22_works.at0).mono ?_
  rintro e W1 ⟨rfl, hb⟩
  have HB1 := Lib.hid hb
  clear hb
  go_wp2_with fail
  go_ret
  exact ⟨rfl, HB1.out⟩
set_option maxHeartbeats 8000000 in
set_option maxRecDepth 100000 in
theorem more_long1 (a0 a1 : ByteArray) (W : World) (h0 : a0.size ≤ 5000) (h : 5000 < a1.size) :
    Calls Try.prog 5 #[.string a0, .string a1] W fun e W' => e = .returned (.bool true) ∧ Below W.heap.size W W' := by
  have c0 : decide ((a0.size : Int) > 5000) = false := decide_eq_false (by omega)
  have c1 : decide (5000 < a0.size) = false := decide_eq_false (by omega)
  have c2 : decide ((5000 : Int) < (a0.size : Int)) = false := decide_eq_false (by omega)
  have c3 : decide ((a1.size : Int) > 5000) = true := decide_eq_true (by omega)
  have c4 : decide (5000 < a1.size) = true := decide_eq_true (by omega)
  have c5 : decide ((5000 : Int) < (a1.size : Int)) = true := decide_eq_true (by omega)
  clear h0
  clear h
  go_enter Try.func5, Try.ntmps5
  go_wp2_with fail
  refine (X.miradorlaw22_works.calls true W X.miradorlaw22_works.at0).mono ?_
  rintro e W1 ⟨rfl, hb⟩
  have HB1 := Lib.hid hb
  clear hb
  go_wp2_with fail
  go_ret
  exact ⟨rfl, HB1.out⟩
set_option maxHeartbeats 8000000 in
set_option maxRecDepth 100000 in
theorem more_bad (a0 a1 : ByteArray) (W : World) (h0 : a0.size ≤ 5000) (h1 : a1.size ≤ 5000) (x0 : Int) (x1 : Bool) (x2 : Int) (x3 : Int) (x4 : Int) (x5 : Int) (x6 : Int) (x7 : Int) (x8 : Int) (x9 : Bool) (x10 : Bool) (x11 : Int) (x12 : Int) (x13 : Int) (x14 : Int) (x15 : Int) (x16 : Int) (x17 : List Int) (x18 : ByteArray) (y0 : Int) (y1 : Bool) (y2 : Int) (y3 : Int) (y4 : Int) (y5 : Int) (y6 : Int) (y7 : Int) (y8 : Int) (y9 : Bool) (y10 : Bool) (y11 : Int) (y12 : Int) (y13 : Int) (y14 : Int) (y15 : Int) (y16 : Int) (y17 : List Int) (y18 : ByteArray) (n e m f : Int) (ep : clientmsg_Parse.f a0 = some (x0, x1, x2, x3, x4, x5, x6, x7, x8, x9, x10, x11, x12, x13, x14, x15, x16, x17, x18, n, e)) (eq : clientmsg_Parse.f (a0 ++ a1) = some (y0, y1, y2, y3, y4, y5, y6, y7, y8, y9, y10, y11, y12, y13, y14, y15, y16, y17, y18, m, f)) (he : e ≠ 0) (hn : n = 0) (h2 : e = 2 → f ≠ 0 ∨ m > (a0.size : Int)) (h3 : e ≠ 2 → f = e) :
    Calls Try.prog 5 #[.string a0, .string a1] W fun e W' => e = .returned (.bool true) ∧ Below W.heap.size W W' := by
  have hsz : a0.size + a1.size ≤ 9223372036854775807 := by omega
  have EP := Lib.hid ep
  have EQ := Lib.hid eq
  have H2 := Lib.hid h2
  have H3 := Lib.hid h3
  subst hn
  have d0 : (e == 0) = false := beq_eq_false_iff_ne.mpr he
  have HE := Lib.hid he
  clear ep eq h2 h3 he
  have c0 : decide ((a0.size : Int) > 5000) = false := decide_eq_false (by omega)
  have c1 : decide (5000 < a0.size) = false := decide_eq_false (by omega)
  have c2 : decide ((5000 : Int) < (a0.size : Int)) = false := decide_eq_false (by omega)
  have c3 : decide ((a1.size : Int) > 5000) = false := decide_eq_false (by omega)
  have c4 : decide (5000 < a1.size) = false := decide_eq_false (by omega)
  have c5 : decide ((5000 : Int) < (a1.size : Int)) = false := decide_eq_false (by omega)
  clear h0 h1
  go_enter Try.func5, Try.ntmps5
  go_wp2_with fail
  refine (X.miradorlaw22_works.calls true W X.miradorlaw22_works.at0).mono ?_
  rintro e W1 ⟨rfl, hb⟩
  have HB1 := Lib.hid hb
  clear hb
  go_wp2_with fail
  refine (X.clientmsg_Parse.calls a0 x0 x1 x2 x3 x4 x5 x6 x7 x8 x9 x10 x11 x12 x13 x14 x15 x16 x17 x18 0 e W1 EP.out).mono ?_
  rintro e W3 ⟨v3, rfl, hR, hb⟩
  obtain ⟨A3, g3, rfl, hc, hC⟩ := Kd.R_reads hR
  have hbz := below_alloc (Below.refl W3.heap.size W3) (.cells #[.int .i64 0, .bool false, .int .i64 0, .int .i64 0, .int .i64 0, .int .i64 0, .int .i64 0, .int .i64 0, .int .i64 0, .bool false, .bool false, .int .i64 0, .int .i64 0, .int .i64 0, .int .i64 0, .int .i64 0, .int .i64 0, .slice none 0 0, .string ⟨#[]⟩] 30)
  have hrow : X.rowAt (W3.alloc (.cells #[.int .i64 0, .bool false, .int .i64 0, .int .i64 0, .int .i64 0, .int .i64 0, .int .i64 0, .int .i64 0, .int .i64 0, .bool false, .bool false, .int .i64 0, .int .i64 0, .int .i64 0, .int .i64 0, .int .i64 0, .int .i64 0, .slice none 0 0, .string ⟨#[]⟩] 30)) W3.heap.size 30 19 = true := X.rowAt_of (heap_alloc_new W3 _) rfl
  obtain ⟨V3, hV⟩ : ∃ Y, (W3.alloc (.cells #[.int .i64 0, .bool false, .int .i64 0, .int .i64 0, .int .i64 0, .int .i64 0, .int .i64 0, .int .i64 0, .int .i64 0, .bool false, .bool false, .int .i64 0, .int .i64 0, .int .i64 0, .int .i64 0, .int .i64 0, .int .i64 0, .slice none 0 0, .string ⟨#[]⟩] 30)).setRow W3.heap.size #[.int .i64 x0, .bool x1, .int .i64 x2, .int .i64 x3, .int .i64 x4, .int .i64 x5, .int .i64 x6, .int .i64 x7, .int .i64 x8, .bool x9, .bool x10, .int .i64 x11, .int .i64 x12, .int .i64 x13, .int .i64 x14, .int .i64 x15, .int .i64 x16, .slice A3 x17.length g3, .string x18] = Y := ⟨_, rfl⟩
  have hbn := X.below_row (g := W3.heap.size) hbz (Nat.le_refl _) #[.int .i64 x0, .bool x1, .int .i64 x2, .int .i64 x3, .int .i64 x4, .int .i64 x5, .int .i64 x6, .int .i64 x7, .int .i64 x8, .bool x9, .bool x10, .int .i64 x11, .int .i64 x12, .int .i64 x13, .int .i64 x14, .int .i64 x15, .int .i64 x16, .slice A3 x17.length g3, .string x18]
  rw [hV] at hbn
  have HB3 := Lib.hid ((HB1.out.trans (Below.mono hb HB1.out.size)).trans (Below.mono hbn (HB1.out.trans (Below.mono hb HB1.out.size)).size))
  have HY3 := Lib.hid (show V3.heap[W3.heap.size]? = some (.cells #[.int .i64 x0, .bool x1, .int .i64 x2, .int .i64 x3, .int .i64 x4, .int .i64 x5, .int .i64 x6, .int .i64 x7, .int .i64 x8, .bool x9, .bool x10, .int .i64 x11, .int .i64 x12, .int .i64 x13, .int .i64 x14, .int .i64 x15, .int .i64 x16, .slice A3 x17.length g3, .string x18] 30 (0, 0)) from by rw [← hV]; exact setRow_heap _ _ _ _ _ _ (heap_alloc_new W3 _))
  have HK3 := Lib.hid (Kd.C_below hC hbn)
  have HG3 := Lib.hid hc
  go_upto_region 7 with (fail)
  try rw [hV]
  clear hV hrow hR hb hbz hbn hC hc
  go_wp2_with fail
  refine (X.clientmsg_Parse.calls (a0 ++ a1) y0 y1 y2 y3 y4 y5 y6 y7 y8 y9 y10 y11 y12 y13 y14 y15 y16 y17 y18 m f V3 EQ.out).mono ?_
  rintro e W4 ⟨v4, rfl, hR, hb⟩
  obtain ⟨A4, g4, rfl, hc, hC⟩ := Kd.R_reads hR
  have hbz := below_alloc (Below.refl W4.heap.size W4) (.cells #[.int .i64 0, .bool false, .int .i64 0, .int .i64 0, .int .i64 0, .int .i64 0, .int .i64 0, .int .i64 0, .int .i64 0, .bool false, .bool false, .int .i64 0, .int .i64 0, .int .i64 0, .int .i64 0, .int .i64 0, .int .i64 0, .slice none 0 0, .string ⟨#[]⟩] 30)
  have hrow : X.rowAt (W4.alloc (.cells #[.int .i64 0, .bool false, .int .i64 0, .int .i64 0, .int .i64 0, .int .i64 0, .int .i64 0, .int .i64 0, .int .i64 0, .bool false, .bool false, .int .i64 0, .int .i64 0, .int .i64 0, .int .i64 0, .int .i64 0, .int .i64 0, .slice none 0 0, .string ⟨#[]⟩] 30)) W4.heap.size 30 19 = true := X.rowAt_of (heap_alloc_new W4 _) rfl
  obtain ⟨V4, hV⟩ : ∃ Y, (W4.alloc (.cells #[.int .i64 0, .bool false, .int .i64 0, .int .i64 0, .int .i64 0, .int .i64 0, .int .i64 0, .int .i64 0, .int .i64 0, .bool false, .bool false, .int .i64 0, .int .i64 0, .int .i64 0, .int .i64 0, .int .i64 0, .int .i64 0, .slice none 0 0, .string ⟨#[]⟩] 30)).setRow W4.heap.size #[.int .i64 y0, .bool y1, .int .i64 y2, .int .i64 y3, .int .i64 y4, .int .i64 y5, .int .i64 y6, .int .i64 y7, .int .i64 y8, .bool y9, .bool y10, .int .i64 y11, .int .i64 y12, .int .i64 y13, .int .i64 y14, .int .i64 y15, .int .i64 y16, .slice A4 y17.length g4, .string y18] = Y := ⟨_, rfl⟩
  have hbn := X.below_row (g := W4.heap.size) hbz (Nat.le_refl _) #[.int .i64 y0, .bool y1, .int .i64 y2, .int .i64 y3, .int .i64 y4, .int .i64 y5, .int .i64 y6, .int .i64 y7, .int .i64 y8, .bool y9, .bool y10, .int .i64 y11, .int .i64 y12, .int .i64 y13, .int .i64 y14, .int .i64 y15, .int .i64 y16, .slice A4 y17.length g4, .string y18]
  rw [hV] at hbn
  have HB4 := Lib.hid ((HB3.out.trans (Below.mono hb HB3.out.size)).trans (Below.mono hbn (HB3.out.trans (Below.mono hb HB3.out.size)).size))
  have HY4 := Lib.hid (show V4.heap[W4.heap.size]? = some (.cells #[.int .i64 y0, .bool y1, .int .i64 y2, .int .i64 y3, .int .i64 y4, .int .i64 y5, .int .i64 y6, .int .i64 y7, .int .i64 y8, .bool y9, .bool y10, .int .i64 y11, .int .i64 y12, .int .i64 y13, .int .i64 y14, .int .i64 y15, .int .i64 y16, .slice A4 y17.length g4, .string y18] 30 (0, 0)) from by rw [← hV]; exact setRow_heap _ _ _ _ _ _ (heap_alloc_new W4 _))
  have HK4 := Lib.hid (Kd.C_below hC hbn)
  have HG4 := Lib.hid hc
  go_upto_region 8 with (fail)
  try rw [hV]
  clear hV hrow hR hb hbz hbn hC hc
  by_cases h2 : e = 2
  · as_aux_lemma =>
    have d1 : (e == 2) = true := beq_iff_eq.mpr h2
    have hh := H2.out h2
    by_cases hf : f = 0
    · have d2 : (f != 0) = false := by simpa using hf
      have d3 : decide (m > (a0.size : Int)) = true := decide_eq_true (hh.resolve_left (fun h => h hf))
      have d4 : decide ((a0.size : Int) < m) = true := decide_eq_true (hh.resolve_left (fun h => h hf))
      clear hh hf h2
      go_wp2_with fail
      go_ret
      exact ⟨by simp, HB4.out⟩
    · have d2 : (f != 0) = true := by simpa using hf
      clear hh hf h2
      go_wp2_with fail
      go_ret
      exact ⟨by simp, HB4.out⟩
  · as_aux_lemma =>
    have d1 : (e == 2) = false := beq_eq_false_iff_ne.mpr h2
    have d2 : (f == e) = true := beq_iff_eq.mpr (H3.out h2)
    clear h2
    go_wp2_with fail
    go_ret
    exact ⟨by simp, HB4.out⟩
set_option maxHeartbeats 8000000 in
set_option maxRecDepth 100000 in
theorem more_ok (a0 a1 t : ByteArray) (W : World) (h0 : a0.size ≤ 5000) (h1 : a1.size ≤ 5000) (u0 : Int) (u1 : Bool) (u2 : Int) (u3 : Int) (u4 : Int) (u5 : Int) (u6 : Int) (u7 : Int) (u8 : Int) (u9 : Bool) (u10 : Bool) (u11 : Int) (u12 : Int) (u13 : Int) (u14 : Int) (u15 : Int) (u16 : Int) (u17 : List Int) (u18 : ByteArray) (ep : clientmsg_Parse.f a0 = some (u0, u1, u2, u3, u4, u5, u6, u7, u8, u9, u10, u11, u12, u13, u14, u15, u16, u17, u18, (t.size : Int), 0)) (eq : clientmsg_Parse.f (a0 ++ a1) = some (u0, u1, u2, u3, u4, u5, u6, u7, u8, u9, u10, u11, u12, u13, u14, u15, u16, u17, u18, (t.size : Int), 0)) (es : miradorref22_Same.f 300 u0 u1 u2 u3 u4 u5 u6 u7 u8 u9 u10 u11 u12 u13 u14 u15 u16 u17 u18 u0 u1 u2 u3 u4 u5 u6 u7 u8 u9 u10 u11 u12 u13 u14 u15 u16 u17 u18 = some true) (eb : clientmsg_Bytes.f u0 u1 u2 u3 u4 u5 u6 u7 u8 u9 u10 u11 u12 u13 u14 u15 u16 u17 u18 = some (t, 0)) (et : clientmsg_Parse.f t = some (u0, u1, u2, u3, u4, u5, u6, u7, u8, u9, u10, u11, u12, u13, u14, u15, u16, u17, u18, (t.size : Int), 0)) (ht : t.size ≤ a0.size) :
    Calls Try.prog 5 #[.string a0, .string a1] W fun e W' => e = .returned (.bool true) ∧ Below W.heap.size W W' := by
  have hsz : a0.size + a1.size ≤ 9223372036854775807 := by omega
  have EP := Lib.hid ep
  have EQ := Lib.hid eq
  have ES := Lib.hid es
  have EB := Lib.hid eb
  have ET := Lib.hid et
  obtain ⟨n, hn⟩ : ∃ n : Int, (t.size : Int) = n := ⟨_, rfl⟩
  rw [hn] at EP EQ ET
  have d0 : decide (n ≤ (a0.size : Int)) = true := decide_eq_true (by omega)
  have d1 : ((t.size : Int) == n) = true := beq_iff_eq.mpr hn
  clear ep eq es eb et ht hn
  have c0 : decide ((a0.size : Int) > 5000) = false := decide_eq_false (by omega)
  have c1 : decide (5000 < a0.size) = false := decide_eq_false (by omega)
  have c2 : decide ((5000 : Int) < (a0.size : Int)) = false := decide_eq_false (by omega)
  have c3 : decide ((a1.size : Int) > 5000) = false := decide_eq_false (by omega)
  have c4 : decide (5000 < a1.size) = false := decide_eq_false (by omega)
  have c5 : decide ((5000 : Int) < (a1.size : Int)) = false := decide_eq_false (by omega)
  clear h0 h1
  go_enter Try.func5, Try.ntmps5
  go_wp2_with fail
  refine (X.miradorlaw22_works.calls true W X.miradorlaw22_works.at0).mono ?_
  rintro e W1 ⟨rfl, hb⟩
  have HB1 := Lib.hid hb
  clear hb
  go_wp2_with fail
  refine (X.clientmsg_Parse.calls a0 u0 u1 u2 u3 u4 u5 u6 u7 u8 u9 u10 u11 u12 u13 u14 u15 u16 u17 u18 n 0 W1 EP.out).mono ?_
  rintro e W3 ⟨v3, rfl, hR, hb⟩
  obtain ⟨A3, g3, rfl, hc, hC⟩ := Kd.R_reads hR
  have hbz := below_alloc (Below.refl W3.heap.size W3) (.cells #[.int .i64 0, .bool false, .int .i64 0, .int .i64 0, .int .i64 0, .int .i64 0, .int .i64 0, .int .i64 0, .int .i64 0, .bool false, .bool false, .int .i64 0, .int .i64 0, .int .i64 0, .int .i64 0, .int .i64 0, .int .i64 0, .slice none 0 0, .string ⟨#[]⟩] 30)
  have hrow : X.rowAt (W3.alloc (.cells #[.int .i64 0, .bool false, .int .i64 0, .int .i64 0, .int .i64 0, .int .i64 0, .int .i64 0, .int .i64 0, .int .i64 0, .bool false, .bool false, .int .i64 0, .int .i64 0, .int .i64 0, .int .i64 0, .int .i64 0, .int .i64 0, .slice none 0 0, .string ⟨#[]⟩] 30)) W3.heap.size 30 19 = true := X.rowAt_of (heap_alloc_new W3 _) rfl
  obtain ⟨V3, hV⟩ : ∃ Y, (W3.alloc (.cells #[.int .i64 0, .bool false, .int .i64 0, .int .i64 0, .int .i64 0, .int .i64 0, .int .i64 0, .int .i64 0, .int .i64 0, .bool false, .bool false, .int .i64 0, .int .i64 0, .int .i64 0, .int .i64 0, .int .i64 0, .int .i64 0, .slice none 0 0, .string ⟨#[]⟩] 30)).setRow W3.heap.size #[.int .i64 u0, .bool u1, .int .i64 u2, .int .i64 u3, .int .i64 u4, .int .i64 u5, .int .i64 u6, .int .i64 u7, .int .i64 u8, .bool u9, .bool u10, .int .i64 u11, .int .i64 u12, .int .i64 u13, .int .i64 u14, .int .i64 u15, .int .i64 u16, .slice A3 u17.length g3, .string u18] = Y := ⟨_, rfl⟩
  have hbn := X.below_row (g := W3.heap.size) hbz (Nat.le_refl _) #[.int .i64 u0, .bool u1, .int .i64 u2, .int .i64 u3, .int .i64 u4, .int .i64 u5, .int .i64 u6, .int .i64 u7, .int .i64 u8, .bool u9, .bool u10, .int .i64 u11, .int .i64 u12, .int .i64 u13, .int .i64 u14, .int .i64 u15, .int .i64 u16, .slice A3 u17.length g3, .string u18]
  rw [hV] at hbn
  have HB3 := Lib.hid ((HB1.out.trans (Below.mono hb HB1.out.size)).trans (Below.mono hbn (HB1.out.trans (Below.mono hb HB1.out.size)).size))
  have HY3 := Lib.hid (show V3.heap[W3.heap.size]? = some (.cells #[.int .i64 u0, .bool u1, .int .i64 u2, .int .i64 u3, .int .i64 u4, .int .i64 u5, .int .i64 u6, .int .i64 u7, .int .i64 u8, .bool u9, .bool u10, .int .i64 u11, .int .i64 u12, .int .i64 u13, .int .i64 u14, .int .i64 u15, .int .i64 u16, .slice A3 u17.length g3, .string u18] 30 (0, 0)) from by rw [← hV]; exact setRow_heap _ _ _ _ _ _ (heap_alloc_new W3 _))
  have HK3 := Lib.hid (Kd.C_below hC hbn)
  have HG3 := Lib.hid hc
  go_upto_region 7 with (fail)
  try rw [hV]
  clear hV hrow hR hb hbz hbn hC hc
  go_wp2_with fail
  refine (X.clientmsg_Parse.calls (a0 ++ a1) u0 u1 u2 u3 u4 u5 u6 u7 u8 u9 u10 u11 u12 u13 u14 u15 u16 u17 u18 n 0 V3 EQ.out).mono ?_
  rintro e W4 ⟨v4, rfl, hR, hb⟩
  obtain ⟨A4, g4, rfl, hc, hC⟩ := Kd.R_reads hR
  have hbz := below_alloc (Below.refl W4.heap.size W4) (.cells #[.int .i64 0, .bool false, .int .i64 0, .int .i64 0, .int .i64 0, .int .i64 0, .int .i64 0, .int .i64 0, .int .i64 0, .bool false, .bool false, .int .i64 0, .int .i64 0, .int .i64 0, .int .i64 0, .int .i64 0, .int .i64 0, .slice none 0 0, .string ⟨#[]⟩] 30)
  have hrow : X.rowAt (W4.alloc (.cells #[.int .i64 0, .bool false, .int .i64 0, .int .i64 0, .int .i64 0, .int .i64 0, .int .i64 0, .int .i64 0, .int .i64 0, .bool false, .bool false, .int .i64 0, .int .i64 0, .int .i64 0, .int .i64 0, .int .i64 0, .int .i64 0, .slice none 0 0, .string ⟨#[]⟩] 30)) W4.heap.size 30 19 = true := X.rowAt_of (heap_alloc_new W4 _) rfl
  obtain ⟨V4, hV⟩ : ∃ Y, (W4.alloc (.cells #[.int .i64 0, .bool false, .int .i64 0, .int .i64 0, .int .i64 0, .int .i64 0, .int .i64 0, .int .i64 0, .int .i64 0, .bool false, .bool false, .int .i64 0, .int .i64 0, .int .i64 0, .int .i64 0, .int .i64 0, .int .i64 0, .slice none 0 0, .string ⟨#[]⟩] 30)).setRow W4.heap.size #[.int .i64 u0, .bool u1, .int .i64 u2, .int .i64 u3, .int .i64 u4, .int .i64 u5, .int .i64 u6, .int .i64 u7, .int .i64 u8, .bool u9, .bool u10, .int .i64 u11, .int .i64 u12, .int .i64 u13, .int .i64 u14, .int .i64 u15, .int .i64 u16, .slice A4 u17.length g4, .string u18] = Y := ⟨_, rfl⟩
  have hbn := X.below_row (g := W4.heap.size) hbz (Nat.le_refl _) #[.int .i64 u0, .bool u1, .int .i64 u2, .int .i64 u3, .int .i64 u4, .int .i64 u5, .int .i64 u6, .int .i64 u7, .int .i64 u8, .bool u9, .bool u10, .int .i64 u11, .int .i64 u12, .int .i64 u13, .int .i64 u14, .int .i64 u15, .int .i64 u16, .slice A4 u17.length g4, .string u18]
  rw [hV] at hbn
  have HB4 := Lib.hid ((HB3.out.trans (Below.mono hb HB3.out.size)).trans (Below.mono hbn (HB3.out.trans (Below.mono hb HB3.out.size)).size))
  have HY4 := Lib.hid (show V4.heap[W4.heap.size]? = some (.cells #[.int .i64 u0, .bool u1, .int .i64 u2, .int .i64 u3, .int .i64 u4, .int .i64 u5, .int .i64 u6, .int .i64 u7, .int .i64 u8, .bool u9, .bool u10, .int .i64 u11, .int .i64 u12, .int .i64 u13, .int .i64 u14, .int .i64 u15, .int .i64 u16, .slice A4 u17.length g4, .string u18] 30 (0, 0)) from by rw [← hV]; exact setRow_heap _ _ _ _ _ _ (heap_alloc_new W4 _))
  have HK4 := Lib.hid (Kd.C_below hC hbn)
  have HG4 := Lib.hid hc
  have HY3b := Lib.hid (blk_below (blk_below HY3.out hb) hbn)
  have HK3b := Lib.hid (Kd.C_below (Kd.C_below HK3.out hb) hbn)
  clear HY3 HK3
  go_upto_region 8 with (fail)
  try rw [hV]
  clear hV hrow hR hb hbz hbn hC hc
  have q31 : X.rowAt V4 W3.heap.size 30 19 = true := X.rowAt_of HY3b.out rfl
  have q32 : X.cellsAt V4 W3.heap.size = #[.int .i64 u0, .bool u1, .int .i64 u2, .int .i64 u3, .int .i64 u4, .int .i64 u5, .int .i64 u6, .int .i64 u7, .int .i64 u8, .bool u9, .bool u10, .int .i64 u11, .int .i64 u12, .int .i64 u13, .int .i64 u14, .int .i64 u15, .int .i64 u16, .slice A3 u17.length g3, .string u18] := X.cellsAt_of HY3b.out
  have q41 : X.rowAt V4 W4.heap.size 30 19 = true := X.rowAt_of HY4.out rfl
  have q42 : X.cellsAt V4 W4.heap.size = #[.int .i64 u0, .bool u1, .int .i64 u2, .int .i64 u3, .int .i64 u4, .int .i64 u5, .int .i64 u6, .int .i64 u7, .int .i64 u8, .bool u9, .bool u10, .int .i64 u11, .int .i64 u12, .int .i64 u13, .int .i64 u14, .int .i64 u15, .int .i64 u16, .slice A4 u17.length g4, .string u18] := X.cellsAt_of HY4.out
  go_wp2_with fail
  refine (X.miradorref22_Same.calls 300 u0 u1 u2 u3 u4 u5 u6 u7 u8 u9 u10 u11 u12 u13 u14 u15 u16 A3 g3 u17 u18 u0 u1 u2 u3 u4 u5 u6 u7 u8 u9 u10 u11 u12 u13 u14 u15 u16 A4 g4 u17 u18 true V4 HK3b.out HG3.out HK4.out HG4.out ES.out).mono ?_
  rintro e W5 ⟨rfl, hb⟩
  have HB5 := Lib.hid (HB4.out.trans (Below.mono hb HB4.out.size))
  have HY5 := Lib.hid (blk_below HY3b.out hb)
  have HK5 := Lib.hid (Kd.C_below HK3b.out hb)
  clear hb q31 q32 q41 q42 HY3b HY4 HK3b HK4 HB4 HB3
  have q51 : X.rowAt W5 W3.heap.size 30 19 = true := X.rowAt_of HY5.out rfl
  have q52 : X.cellsAt W5 W3.heap.size = #[.int .i64 u0, .bool u1, .int .i64 u2, .int .i64 u3, .int .i64 u4, .int .i64 u5, .int .i64 u6, .int .i64 u7, .int .i64 u8, .bool u9, .bool u10, .int .i64 u11, .int .i64 u12, .int .i64 u13, .int .i64 u14, .int .i64 u15, .int .i64 u16, .slice A3 u17.length g3, .string u18] := X.cellsAt_of HY5.out
  go_wp2_with fail
  refine (X.clientmsg_Bytes.calls u0 u1 u2 u3 u4 u5 u6 u7 u8 u9 u10 u11 u12 u13 u14 u15 u16 A3 g3 u17 u18 t 0 W5 HK5.out HG3.out EB.out).mono ?_
  rintro e W6 ⟨rfl, hb⟩
  have HB6 := Lib.hid (HB5.out.trans (Below.mono hb HB5.out.size))
  have HY6 := Lib.hid (blk_below HY5.out hb)
  have HK6 := Lib.hid (Kd.C_below HK5.out hb)
  clear hb q51 q52 HY5 HK5 HB5
  go_wp2_with fail
  refine (X.clientmsg_Parse.calls t u0 u1 u2 u3 u4 u5 u6 u7 u8 u9 u10 u11 u12 u13 u14 u15 u16 u17 u18 n 0 W6 ET.out).mono ?_
  rintro e W7 ⟨v7, rfl, hR, hb⟩
  obtain ⟨A7, g7, rfl, hc, hC⟩ := Kd.R_reads hR
  have hbz := below_alloc (Below.refl W7.heap.size W7) (.cells #[.int .i64 0, .bool false, .int .i64 0, .int .i64 0, .int .i64 0, .int .i64 0, .int .i64 0, .int .i64 0, .int .i64 0, .bool false, .bool false, .int .i64 0, .int .i64 0, .int .i64 0, .int .i64 0, .int .i64 0, .int .i64 0, .slice none 0 0, .string ⟨#[]⟩] 30)
  have hrow : X.rowAt (W7.alloc (.cells #[.int .i64 0, .bool false, .int .i64 0, .int .i64 0, .int .i64 0, .int .i64 0, .int .i64 0, .int .i64 0, .int .i64 0, .bool false, .bool false, .int .i64 0, .int .i64 0, .int .i64 0, .int .i64 0, .int .i64 0, .int .i64 0, .slice none 0 0, .string ⟨#[]⟩] 30)) W7.heap.size 30 19 = true := X.rowAt_of (heap_alloc_new W7 _) rfl
  obtain ⟨V7, hV⟩ : ∃ Y, (W7.alloc (.cells #[.int .i64 0, .bool false, .int .i64 0, .int .i64 0, .int .i64 0, .int .i64 0, .int .i64 0, .int .i64 0, .int .i64 0, .bool false, .bool false, .int .i64 0, .int .i64 0, .int .i64 0, .int .i64 0, .int .i64 0, .int .i64 0, .slice none 0 0, .string ⟨#[]⟩] 30)).setRow W7.heap.size #[.int .i64 u0, .bool u1, .int .i64 u2, .int .i64 u3, .int .i64 u4, .int .i64 u5, .int .i64 u6, .int .i64 u7, .int .i64 u8, .bool u9, .bool u10, .int .i64 u11, .int .i64 u12, .int .i64 u13, .int .i64 u14, .int .i64 u15, .int .i64 u16, .slice A7 u17.length g7, .string u18] = Y := ⟨_, rfl⟩
  have hbn := X.below_row (g := W7.heap.size) hbz (Nat.le_refl _) #[.int .i64 u0, .bool u1, .int .i64 u2, .int .i64 u3, .int .i64 u4, .int .i64 u5, .int .i64 u6, .int .i64 u7, .int .i64 u8, .bool u9, .bool u10, .int .i64 u11, .int .i64 u12, .int .i64 u13, .int .i64 u14, .int .i64 u15, .int .i64 u16, .slice A7 u17.length g7, .string u18]
  rw [hV] at hbn
  have HB7 := Lib.hid ((HB6.out.trans (Below.mono hb HB6.out.size)).trans (Below.mono hbn (HB6.out.trans (Below.mono hb HB6.out.size)).size))
  have HY7 := Lib.hid (show V7.heap[W7.heap.size]? = some (.cells #[.int .i64 u0, .bool u1, .int .i64 u2, .int .i64 u3, .int .i64 u4, .int .i64 u5, .int .i64 u6, .int .i64 u7, .int .i64 u8, .bool u9, .bool u10, .int .i64 u11, .int .i64 u12, .int .i64 u13, .int .i64 u14, .int .i64 u15, .int .i64 u16, .slice A7 u17.length g7, .string u18] 30 (0, 0)) from by rw [← hV]; exact setRow_heap _ _ _ _ _ _ (heap_alloc_new W7 _))
  have HK7 := Lib.hid (Kd.C_below hC hbn)
  have HG7 := Lib.hid hc
  have HY6b := Lib.hid (blk_below (blk_below HY6.out hb) hbn)
  have HK6b := Lib.hid (Kd.C_below (Kd.C_below HK6.out hb) hbn)
  clear HY6 HK6
  go_upto_region 12 with (fail)
  try rw [hV]
  clear hV hrow hR hb hbz hbn hC hc
  have q61 : X.rowAt V7 W3.heap.size 30 19 = true := X.rowAt_of HY6b.out rfl
  have q62 : X.cellsAt V7 W3.heap.size = #[.int .i64 u0, .bool u1, .int .i64 u2, .int .i64 u3, .int .i64 u4, .int .i64 u5, .int .i64 u6, .int .i64 u7, .int .i64 u8, .bool u9, .bool u10, .int .i64 u11, .int .i64 u12, .int .i64 u13, .int .i64 u14, .int .i64 u15, .int .i64 u16, .slice A3 u17.length g3, .string u18] := X.cellsAt_of HY6b.out
  have q71 : X.rowAt V7 W7.heap.size 30 19 = true := X.rowAt_of HY7.out rfl
  have q72 : X.cellsAt V7 W7.heap.size = #[.int .i64 u0, .bool u1, .int .i64 u2, .int .i64 u3, .int .i64 u4, .int .i64 u5, .int .i64 u6, .int .i64 u7, .int .i64 u8, .bool u9, .bool u10, .int .i64 u11, .int .i64 u12, .int .i64 u13, .int .i64 u14, .int .i64 u15, .int .i64 u16, .slice A7 u17.length g7, .string u18] := X.cellsAt_of HY7.out
  go_wp2_with fail
  refine (X.miradorref22_Same.calls 300 u0 u1 u2 u3 u4 u5 u6 u7 u8 u9 u10 u11 u12 u13 u14 u15 u16 A3 g3 u17 u18 u0 u1 u2 u3 u4 u5 u6 u7 u8 u9 u10 u11 u12 u13 u14 u15 u16 A7 g7 u17 u18 true V7 HK6b.out HG3.out HK7.out HG7.out ES.out).mono ?_
  rintro e W8 ⟨rfl, hb⟩
  have HB8 := Lib.hid (HB7.out.trans (Below.mono hb HB7.out.size))
  clear hb q61 q62 q71 q72
  go_wp2_with fail
  go_ret
  exact ⟨by simp, HB8.out⟩
end
theorem ClientmsgMore_walk (a0 a1 : ByteArray) (W : World) (w0 : a0.size ≤ 140737488351232) (w1 : a1.size ≤ 140737488351232) :
    Calls Try.prog 5 #[.string a0, .string a1] W fun e W' => e = .returned (.bool true) ∧ Below W.heap.size W W' := by
  by_cases h0 : 5000 < a0.size
  · exact more_long0 a0 a1 W h0
  by_cases h1 : 5000 < a1.size
  · exact more_long1 a0 a1 W (by omega) h1
  have hz : (a0 ++ a1).size = a0.size + a1.size := ByteArray.size_append
  obtain ⟨⟨x0, x1, x2, x3, x4, x5, x6, x7, x8, x9, x10, x11, x12, x13, x14, x15, x16, x17, x18, xn, xe⟩, ⟨y0, y1, y2, y3, y4, y5, y6, y7, y8, y9, y10, y11, y12, y13, y14, y15, y16, y17, y18, yn, ye⟩, e1, e2, ha, hb, hc⟩ := parse_pair a0 a1 (by omega) (by omega)
  by_cases he : xe = 0
  · obtain ⟨k1, k2⟩ := ha he
    obtain ⟨m, bs, hf, hm⟩ := parse_took a0 (by omega) _ e1 he
    have p2 := parse_form hf (⟨#[]⟩ : ByteArray) (Nat.zero_le _)
    rw [ba_append_nil] at p2
    have hs := strOfNums_size bs
    have hsm := hf.same 300 (by omega)
    have hbf := bytes_form hf
    rw [k1, hm] at e2
    rw [hm] at e1 k2
    obtain ⟨⟨u0, u1, u2, u3, u4, u5, u6, u7, u8, u9, u10, u11, u12, u13, u14, u15, u16, u17, u18⟩, hp⟩ : ∃ p : P19, p19 m = p := ⟨_, rfl⟩
    have e5 : tup m (bs.length : Int) 0 = (u0, u1, u2, u3, u4, u5, u6, u7, u8, u9, u10, u11, u12, u13, u14, u15, u16, u17, u18, ((strOfNums bs).size : Int), 0) := by
      rw [hs]
      show ((p19 m).1, (p19 m).2.1, (p19 m).2.2.1, (p19 m).2.2.2.1, (p19 m).2.2.2.2.1, (p19 m).2.2.2.2.2.1, (p19 m).2.2.2.2.2.2.1, (p19 m).2.2.2.2.2.2.2.1, (p19 m).2.2.2.2.2.2.2.2.1, (p19 m).2.2.2.2.2.2.2.2.2.1, (p19 m).2.2.2.2.2.2.2.2.2.2.1, (p19 m).2.2.2.2.2.2.2.2.2.2.2.1, (p19 m).2.2.2.2.2.2.2.2.2.2.2.2.1, (p19 m).2.2.2.2.2.2.2.2.2.2.2.2.2.1, (p19 m).2.2.2.2.2.2.2.2.2.2.2.2.2.2.1, (p19 m).2.2.2.2.2.2.2.2.2.2.2.2.2.2.2.1, (p19 m).2.2.2.2.2.2.2.2.2.2.2.2.2.2.2.2.1, (p19 m).2.2.2.2.2.2.2.2.2.2.2.2.2.2.2.2.2.1, (p19 m).2.2.2.2.2.2.2.2.2.2.2.2.2.2.2.2.2.2, (bs.length : Int), (0 : Int)) = _
      rw [hp]
    rw [e5] at e1 e2 p2 k2
    rw [hp] at hsm hbf
    exact more_ok a0 a1 (strOfNums bs) W (by omega) (by omega) u0 u1 u2 u3 u4 u5 u6 u7 u8 u9 u10 u11 u12 u13 u14 u15 u16 u17 u18 e1 e2 hsm hbf p2 (by have k3 : ((strOfNums bs).size : Int) ≤ (a0.size : Int) := k2; omega)
  · refine more_bad a0 a1 W (by omega) (by omega) x0 x1 x2 x3 x4 x5 x6 x7 x8 x9 x10 x11 x12 x13 x14 x15 x16 x17 x18 y0 y1 y2 y3 y4 y5 y6 y7 y8 y9 y10 y11 y12 y13 y14 y15 y16 y17 y18 xn xe yn ye e1 e2 he ?_ ?_ ?_
    · by_cases h2 : xe = 2
      · exact (hb h2).1
      · exact (hc he h2).1
    · intro h2
      exact (hb h2).2
    · intro h2
      exact (hc he h2).2
end Go.Proofs.Ytclikkhkhoicfaa.H
