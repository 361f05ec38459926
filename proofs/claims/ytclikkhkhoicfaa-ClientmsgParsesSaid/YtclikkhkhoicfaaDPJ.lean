/- The document's Parse answers what the program's does. No condition. -/
import Derived.Test.YtclikkhkhoicfaaDP
namespace Go.Proofs.Ytclikkhkhoicfaa.H
open Go.RowKit Go.Proofs.YtclikkhkhoicfaaW.PrintWords Go.Proofs.YtclikkhkhoicfaaW.PrintLast Go.Proofs.YtclikkhkhoicfaaW.PrintMore Go.Proofs.Ytclikkhkhoicfaa.B Go.Proofs.Ytclikkhkhoicfaa.O Go.Proofs.Ytclikkhkhoicfaa.F Go.Proofs.Ytclikkhkhoicfaa.X
set_option linter.unusedVariables false
set_option linter.unusedSimpArgs false
theorem pEnd_res {m : M20} {q : CS} {R : P21} (h : pEnd (m, q) = some R) (h0 : er m = 0) : (if q.ce = 0 then tup m q.at_ 0 else zt q.ce) = R := by
  unfold pEnd at h
  rw [if_pos h0] at h
  by_cases hq : q.ce = 0
  · rw [if_pos hq] at h ⊢; exact Option.some.inj h
  · rw [if_neg hq] at h ⊢; exact Option.some.inj h
theorem pEnd_bad {m : M20} {q : CS} {R : P21} {v : Int} (h : pEnd (m, q) = some R) (hv : er m = v) (h0 : v ≠ 0) : zt v = R := by
  unfold pEnd at h
  rw [if_neg (by rw [hv]; exact h0), hv] at h
  exact Option.some.inj h
theorem parse13 (t : ByteArray) (ht : t.size = 16) : ∃ p : F10, format_Parse.f t = some p ∧ miradorref13_Parse.f 40 t = some p := by
  obtain ⟨b, h1, h2, _⟩ := valid_f 40 (by omega) ((bytesOf t).getD 0 0) ((bytesOf t).getD 1 0) ((bytesOf t).getD 2 0 != 0) ((bytesOf t).getD 3 0 != 0) ((bytesOf t).getD 4 0 * 256 + (bytesOf t).getD 5 0) ((bytesOf t).getD 6 0 * 256 + (bytesOf t).getD 7 0) ((bytesOf t).getD 8 0 * 256 + (bytesOf t).getD 9 0) ((bytesOf t).getD 10 0) ((bytesOf t).getD 11 0) ((bytesOf t).getD 12 0)
  exact ⟨_, parse_long t (by omega) (by omega) _ rfl b h1, rparse_long 40 (by omega) t (by omega) _ rfl b h2⟩
theorem dpj_3 (s : ByteArray) (W : World) (o0 : Ok ⟨s, 0, 0⟩) (k : Int) (q1 : CS) (e0 : intC ⟨s, 0, 0⟩ 1 = some (k, q1)) (o1 : Ok q1) (hc : q1.ce = 0) (hk : k = 3) (r0 : Int) (r1 : Bool) (r2 : Int) (r3 : Int) (r4 : Int) (r5 : Int) (r6 : Int) (r7 : Int) (r8 : Int) (r9 : Bool) (r10 : Bool) (r11 : Int) (r12 : Int) (r13 : Int) (r14 : Int) (r15 : Int) (r16 : Int) (r17 : List Int) (r18 : ByteArray) (n e : Int) (h : (readC 3 q1).bind pEnd = some (r0, r1, r2, r3, r4, r5, r6, r7, r8, r9, r10, r11, r12, r13, r14, r15, r16, r17, r18, n, e)) :
    Calls Try.prog 9 #[.string s] W fun en w' => ∃ v0_ : Value, en = .returned (.tuple #[.agg #[.int .i64 r0, .bool r1, .int .i64 r2, .int .i64 r3, .int .i64 r4, .int .i64 r5, .int .i64 r6, .int .i64 r7, .int .i64 r8, .bool r9, .bool r10, .int .i64 r11, .int .i64 r12, .int .i64 r13, .int .i64 r14, .int .i64 r15, .int .i64 r16, v0_, .string r18], .int .i64 n, .int .i64 e]) ∧ Kd.R (Kd.int .i64) 3 w' W.heap.size (fun _ => True) v0_ r17 ∧ Below W.heap.size W w' := by
  obtain ⟨f, q2, e1, p1, g1⟩ := (int_step 1 i1).good q1 o1
  have o2 := g1.ok
  have e1 : intC q1 1 = some (f, q2) := e1
  obtain ⟨x, q3, e2, p2, g2⟩ := (int_step 2 i2).good q2 o2
  have o3 := g2.ok
  have e2 : intC q2 2 = some (x, q3) := e2
  obtain ⟨y, q4, e3, p3, g3⟩ := (int_step 2 i2).good q3 o3
  have o4 := g3.ok
  have e3 : intC q3 2 = some (y, q4) := e3
  obtain ⟨w_, q5, e4, p4, g4⟩ := (int_step 2 i2).good q4 o4
  have o5 := g4.ok
  have e4 : intC q4 2 = some (w_, q5) := e4
  obtain ⟨h_, q6, e5, p5, g5⟩ := (int_step 2 i2).good q5 o5
  have o6 := g5.ok
  have e5 : intC q5 2 = some (h_, q6) := e5
  have hr : readC 3 q1 = some (m2 ((f != 0), x, y, w_, h_), q6) := by
    rw [readC3]
    simp only [requestC, flagC, rectC, placeC, e1, e2, e3, e4, e5, Option.map_some, Option.bind_some]
  rw [hr, Option.bind_some] at h
  exact dp_3 s W o0 k q1 e0 o1 f q2 e1 o2 x q3 e2 o3 y q4 e3 o4 w_ q5 e4 o5 h_ q6 e5 o6 hc hk r0 r1 r2 r3 r4 r5 r6 r7 r8 r9 r10 r11 r12 r13 r14 r15 r16 r17 r18 n e (pEnd_res h rfl)
theorem dpj_4 (s : ByteArray) (W : World) (o0 : Ok ⟨s, 0, 0⟩) (k : Int) (q1 : CS) (e0 : intC ⟨s, 0, 0⟩ 1 = some (k, q1)) (o1 : Ok q1) (hc : q1.ce = 0) (hk : k = 4) (r0 : Int) (r1 : Bool) (r2 : Int) (r3 : Int) (r4 : Int) (r5 : Int) (r6 : Int) (r7 : Int) (r8 : Int) (r9 : Bool) (r10 : Bool) (r11 : Int) (r12 : Int) (r13 : Int) (r14 : Int) (r15 : Int) (r16 : Int) (r17 : List Int) (r18 : ByteArray) (n e : Int) (h : (readC 4 q1).bind pEnd = some (r0, r1, r2, r3, r4, r5, r6, r7, r8, r9, r10, r11, r12, r13, r14, r15, r16, r17, r18, n, e)) :
    Calls Try.prog 9 #[.string s] W fun en w' => ∃ v0_ : Value, en = .returned (.tuple #[.agg #[.int .i64 r0, .bool r1, .int .i64 r2, .int .i64 r3, .int .i64 r4, .int .i64 r5, .int .i64 r6, .int .i64 r7, .int .i64 r8, .bool r9, .bool r10, .int .i64 r11, .int .i64 r12, .int .i64 r13, .int .i64 r14, .int .i64 r15, .int .i64 r16, v0_, .string r18], .int .i64 n, .int .i64 e]) ∧ Kd.R (Kd.int .i64) 3 w' W.heap.size (fun _ => True) v0_ r17 ∧ Below W.heap.size W w' := by
  obtain ⟨f, q2, e1, p1, g1⟩ := (int_step 1 i1).good q1 o1
  have o2 := g1.ok
  have e1 : intC q1 1 = some (f, q2) := e1
  obtain ⟨b, q3, e2, p2, g2⟩ := (bytes_step 2 (by decide)).good q2 o2
  have o3 := g2.ok
  have e2 : bytesC q2 2 = some (b, q3) := e2
  obtain ⟨x, q4, e3, p3, g3⟩ := (int_step 4 i4).good q3 o3
  have o4 := g3.ok
  have e3 : intC q3 4 = some (x, q4) := e3
  have hr : readC 4 q1 = some (m3 ((f != 0), x), q4) := by
    rw [readC4]
    simp only [keyC, flagC, e1, e2, e3, Option.map_some, Option.bind_some]
  rw [hr, Option.bind_some] at h
  exact dp_4 s W o0 k q1 e0 o1 f q2 e1 o2 b q3 e2 o3 x q4 e3 o4 hc hk r0 r1 r2 r3 r4 r5 r6 r7 r8 r9 r10 r11 r12 r13 r14 r15 r16 r17 r18 n e (pEnd_res h rfl)
theorem dpj_5 (s : ByteArray) (W : World) (o0 : Ok ⟨s, 0, 0⟩) (k : Int) (q1 : CS) (e0 : intC ⟨s, 0, 0⟩ 1 = some (k, q1)) (o1 : Ok q1) (hc : q1.ce = 0) (hk : k = 5) (r0 : Int) (r1 : Bool) (r2 : Int) (r3 : Int) (r4 : Int) (r5 : Int) (r6 : Int) (r7 : Int) (r8 : Int) (r9 : Bool) (r10 : Bool) (r11 : Int) (r12 : Int) (r13 : Int) (r14 : Int) (r15 : Int) (r16 : Int) (r17 : List Int) (r18 : ByteArray) (n e : Int) (h : (readC 5 q1).bind pEnd = some (r0, r1, r2, r3, r4, r5, r6, r7, r8, r9, r10, r11, r12, r13, r14, r15, r16, r17, r18, n, e)) :
    Calls Try.prog 9 #[.string s] W fun en w' => ∃ v0_ : Value, en = .returned (.tuple #[.agg #[.int .i64 r0, .bool r1, .int .i64 r2, .int .i64 r3, .int .i64 r4, .int .i64 r5, .int .i64 r6, .int .i64 r7, .int .i64 r8, .bool r9, .bool r10, .int .i64 r11, .int .i64 r12, .int .i64 r13, .int .i64 r14, .int .i64 r15, .int .i64 r16, v0_, .string r18], .int .i64 n, .int .i64 e]) ∧ Kd.R (Kd.int .i64) 3 w' W.heap.size (fun _ => True) v0_ r17 ∧ Below W.heap.size W w' := by
  obtain ⟨f, q2, e1, p1, g1⟩ := (int_step 1 i1).good q1 o1
  have o2 := g1.ok
  have e1 : intC q1 1 = some (f, q2) := e1
  obtain ⟨x, q3, e2, p2, g2⟩ := (int_step 2 i2).good q2 o2
  have o3 := g2.ok
  have e2 : intC q2 2 = some (x, q3) := e2
  obtain ⟨y, q4, e3, p3, g3⟩ := (int_step 2 i2).good q3 o3
  have o4 := g3.ok
  have e3 : intC q3 2 = some (y, q4) := e3
  have hr : readC 5 q1 = some (m4 (f, x, y), q4) := by
    rw [readC5]
    simp only [pointerC, placeC, e1, e2, e3, Option.map_some, Option.bind_some]
  rw [hr, Option.bind_some] at h
  exact dp_5 s W o0 k q1 e0 o1 f q2 e1 o2 x q3 e2 o3 y q4 e3 o4 hc hk r0 r1 r2 r3 r4 r5 r6 r7 r8 r9 r10 r11 r12 r13 r14 r15 r16 r17 r18 n e (pEnd_res h rfl)
theorem dpj_6 (s : ByteArray) (W : World) (o0 : Ok ⟨s, 0, 0⟩) (k : Int) (q1 : CS) (e0 : intC ⟨s, 0, 0⟩ 1 = some (k, q1)) (o1 : Ok q1) (hc : q1.ce = 0) (hk : k = 6) (r0 : Int) (r1 : Bool) (r2 : Int) (r3 : Int) (r4 : Int) (r5 : Int) (r6 : Int) (r7 : Int) (r8 : Int) (r9 : Bool) (r10 : Bool) (r11 : Int) (r12 : Int) (r13 : Int) (r14 : Int) (r15 : Int) (r16 : Int) (r17 : List Int) (r18 : ByteArray) (n e : Int) (h : (readC 6 q1).bind pEnd = some (r0, r1, r2, r3, r4, r5, r6, r7, r8, r9, r10, r11, r12, r13, r14, r15, r16, r17, r18, n, e)) :
    Calls Try.prog 9 #[.string s] W fun en w' => ∃ v0_ : Value, en = .returned (.tuple #[.agg #[.int .i64 r0, .bool r1, .int .i64 r2, .int .i64 r3, .int .i64 r4, .int .i64 r5, .int .i64 r6, .int .i64 r7, .int .i64 r8, .bool r9, .bool r10, .int .i64 r11, .int .i64 r12, .int .i64 r13, .int .i64 r14, .int .i64 r15, .int .i64 r16, v0_, .string r18], .int .i64 n, .int .i64 e]) ∧ Kd.R (Kd.int .i64) 3 w' W.heap.size (fun _ => True) v0_ r17 ∧ Below W.heap.size W w' := by
  obtain ⟨b, q2, e1, p1, g1⟩ := (bytes_step 3 (by decide)).good q1 o1
  have o2 := g1.ok
  have e1 : bytesC q1 3 = some (b, q2) := e1
  obtain ⟨x, q3, e2, p2, g2⟩ := (int_step 4 i4).good q2 o2
  have o3 := g2.ok
  have e2 : intC q2 4 = some (x, q3) := e2
  by_cases hx : x > 4096
  · have hr : readC 6 q1 = some (m5 (⟨#[]⟩, 4), q3) := by
      rw [readC6]
      simp only [cutC, e1, e2, Option.bind_some, if_pos hx, Option.map_some]
    rw [hr, Option.bind_some] at h
    exact dp_6l s W o0 k q1 e0 o1 b q2 e1 o2 x q3 e2 o3 hc hk hx r0 r1 r2 r3 r4 r5 r6 r7 r8 r9 r10 r11 r12 r13 r14 r15 r16 r17 r18 n e (pEnd_bad h rfl (by decide))
  · obtain ⟨t, q4, e3, p3, g3⟩ := (bytes_step x p2).good q3 o3
    have o4 := g3.ok
    have e3 : bytesC q3 x = some (t, q4) := e3
    have hr : readC 6 q1 = some (m5 (t, 0), q4) := by
      rw [readC6]
      simp only [cutC, e1, e2, e3, Option.bind_some, if_neg hx, Option.map_some]
    rw [hr, Option.bind_some] at h
    exact dp_6 s W o0 k q1 e0 o1 b q2 e1 o2 x q3 e2 o3 t q4 e3 o4 hc hk hx r0 r1 r2 r3 r4 r5 r6 r7 r8 r9 r10 r11 r12 r13 r14 r15 r16 r17 r18 n e (pEnd_res h rfl)
theorem dpj_2 (s : ByteArray) (W : World) (o0 : Ok ⟨s, 0, 0⟩) (k : Int) (q1 : CS) (e0 : intC ⟨s, 0, 0⟩ 1 = some (k, q1)) (o1 : Ok q1) (hc : q1.ce = 0) (hk : k = 2) (r0 : Int) (r1 : Bool) (r2 : Int) (r3 : Int) (r4 : Int) (r5 : Int) (r6 : Int) (r7 : Int) (r8 : Int) (r9 : Bool) (r10 : Bool) (r11 : Int) (r12 : Int) (r13 : Int) (r14 : Int) (r15 : Int) (r16 : Int) (r17 : List Int) (r18 : ByteArray) (n e : Int) (h : (readC 2 q1).bind pEnd = some (r0, r1, r2, r3, r4, r5, r6, r7, r8, r9, r10, r11, r12, r13, r14, r15, r16, r17, r18, n, e)) :
    Calls Try.prog 9 #[.string s] W fun en w' => ∃ v0_ : Value, en = .returned (.tuple #[.agg #[.int .i64 r0, .bool r1, .int .i64 r2, .int .i64 r3, .int .i64 r4, .int .i64 r5, .int .i64 r6, .int .i64 r7, .int .i64 r8, .bool r9, .bool r10, .int .i64 r11, .int .i64 r12, .int .i64 r13, .int .i64 r14, .int .i64 r15, .int .i64 r16, v0_, .string r18], .int .i64 n, .int .i64 e]) ∧ Kd.R (Kd.int .i64) 3 w' W.heap.size (fun _ => True) v0_ r17 ∧ Below W.heap.size W w' := by
  obtain ⟨b, q2, e1, p1, g1⟩ := (bytes_step 1 (by decide)).good q1 o1
  have o2 := g1.ok
  have e1 : bytesC q1 1 = some (b, q2) := e1
  obtain ⟨x, q3, e2, p2, g2⟩ := (int_step 2 i2).good q2 o2
  have o3 := g2.ok
  have e2 : intC q2 2 = some (x, q3) := e2
  have hx0 : 0 ≤ x := p2
  by_cases hx : x > 256
  · have hr : readC 2 q1 = some (m1 ([], 4), q3) := by
      rw [readC2]
      simp only [encsC, e1, e2, Option.bind_some, if_pos hx, Option.map_some]
    rw [hr, Option.bind_some] at h
    exact dp_2l s W o0 k q1 e0 o1 b q2 e1 o2 x q3 e2 o3 hc hk hx r0 r1 r2 r3 r4 r5 r6 r7 r8 r9 r10 r11 r12 r13 r14 r15 r16 r17 r18 n e (pEnd_bad h rfl (by decide))
  · obtain ⟨ys, ql, el, p3, g3⟩ := (encsL_step x.toNat).good q3 o3
    have el : encsL x.toNat q3 = some (ys, ql) := el
    have hr : readC 2 q1 = some (m1 (ys, 0), ql) := by
      rw [readC2]
      simp only [encsC, e1, e2, el, Option.bind_some, if_neg hx, if_pos hx0, Option.map_some]
    rw [hr, Option.bind_some] at h
    exact dp_2 s W o0 k q1 e0 o1 b q2 e1 o2 x q3 e2 o3 hc hk hx hx0 ys ql el g3.ok r0 r1 r2 r3 r4 r5 r6 r7 r8 r9 r10 r11 r12 r13 r14 r15 r16 r17 r18 n e (pEnd_res h rfl)
theorem dpj_0 (s : ByteArray) (W : World) (o0 : Ok ⟨s, 0, 0⟩) (k : Int) (q1 : CS) (e0 : intC ⟨s, 0, 0⟩ 1 = some (k, q1)) (o1 : Ok q1) (hc : q1.ce = 0) (hk : k = 0) (r0 : Int) (r1 : Bool) (r2 : Int) (r3 : Int) (r4 : Int) (r5 : Int) (r6 : Int) (r7 : Int) (r8 : Int) (r9 : Bool) (r10 : Bool) (r11 : Int) (r12 : Int) (r13 : Int) (r14 : Int) (r15 : Int) (r16 : Int) (r17 : List Int) (r18 : ByteArray) (n e : Int) (h : (readC 0 q1).bind pEnd = some (r0, r1, r2, r3, r4, r5, r6, r7, r8, r9, r10, r11, r12, r13, r14, r15, r16, r17, r18, n, e)) :
    Calls Try.prog 9 #[.string s] W fun en w' => ∃ v0_ : Value, en = .returned (.tuple #[.agg #[.int .i64 r0, .bool r1, .int .i64 r2, .int .i64 r3, .int .i64 r4, .int .i64 r5, .int .i64 r6, .int .i64 r7, .int .i64 r8, .bool r9, .bool r10, .int .i64 r11, .int .i64 r12, .int .i64 r13, .int .i64 r14, .int .i64 r15, .int .i64 r16, v0_, .string r18], .int .i64 n, .int .i64 e]) ∧ Kd.R (Kd.int .i64) 3 w' W.heap.size (fun _ => True) v0_ r17 ∧ Below W.heap.size W w' := by
  obtain ⟨b, q2, e1, p1, g1⟩ := (bytes_step 3 (by decide)).good q1 o1
  have o2 := g1.ok
  have e1 : bytesC q1 3 = some (b, q2) := e1
  obtain ⟨t, q3, e2, p2, g2⟩ := (bytes_step 16 (by decide)).good q2 o2
  have o3 := g2.ok
  have e2 : bytesC q2 16 = some (t, q3) := e2
  by_cases hq : q3.ce = 0
  · have ht : t.size = 16 := by have := ((bytes_step 16 (by decide)).took q2 t q3 o2 e2 hq).1; omega
    obtain ⟨⟨g0, g1, g2, g3, g4, g5, g6, g7, g8, g9, ge⟩, f1, f2⟩ := parse13 t ht
    have hr : readC 0 q1 = some (m0 (g0, g1, g2, g3, g4, g5, g6, g7, g8, g9, ge), q3) := by
      rw [readC0]
      simp only [formatC, e1, e2, f1, Option.bind_some, if_pos hq, Option.map_some]
    rw [hr, Option.bind_some] at h
    by_cases hg : ge = 0
    · exact dp_0c s W o0 k q1 e0 o1 b q2 e1 o2 t q3 e2 o3 hc hk hq g0 g1 g2 g3 g4 g5 g6 g7 g8 g9 ge f2 hg r0 r1 r2 r3 r4 r5 r6 r7 r8 r9 r10 r11 r12 r13 r14 r15 r16 r17 r18 n e (pEnd_res h hg)
    · exact dp_0b s W o0 k q1 e0 o1 b q2 e1 o2 t q3 e2 o3 hc hk hq g0 g1 g2 g3 g4 g5 g6 g7 g8 g9 ge f2 hg r0 r1 r2 r3 r4 r5 r6 r7 r8 r9 r10 r11 r12 r13 r14 r15 r16 r17 r18 n e (pEnd_bad h rfl hg)
  · have hr : readC 0 q1 = some (m0 (0, 0, false, false, 0, 0, 0, 0, 0, 0, q3.ce), q3) := by
      rw [readC0]
      simp only [formatC, e1, e2, Option.bind_some, if_neg hq, Option.map_some]
    rw [hr, Option.bind_some] at h
    exact dp_0a s W o0 k q1 e0 o1 b q2 e1 o2 t q3 e2 o3 hc hk hq r0 r1 r2 r3 r4 r5 r6 r7 r8 r9 r10 r11 r12 r13 r14 r15 r16 r17 r18 n e (pEnd_bad h rfl hq)
/-- The document's Parse answers what the program's does. -/
theorem dparse_c (s : ByteArray) (W : World) (hs : s.size ≤ 4611686018427387904) (r0 : Int) (r1 : Bool) (r2 : Int) (r3 : Int) (r4 : Int) (r5 : Int) (r6 : Int) (r7 : Int) (r8 : Int) (r9 : Bool) (r10 : Bool) (r11 : Int) (r12 : Int) (r13 : Int) (r14 : Int) (r15 : Int) (r16 : Int) (r17 : List Int) (r18 : ByteArray) (n e : Int) (h : clientmsg_Parse.f s = some (r0, r1, r2, r3, r4, r5, r6, r7, r8, r9, r10, r11, r12, r13, r14, r15, r16, r17, r18, n, e)) :
    Calls Try.prog 9 #[.string s] W fun en w' => ∃ v0_ : Value, en = .returned (.tuple #[.agg #[.int .i64 r0, .bool r1, .int .i64 r2, .int .i64 r3, .int .i64 r4, .int .i64 r5, .int .i64 r6, .int .i64 r7, .int .i64 r8, .bool r9, .bool r10, .int .i64 r11, .int .i64 r12, .int .i64 r13, .int .i64 r14, .int .i64 r15, .int .i64 r16, v0_, .string r18], .int .i64 n, .int .i64 e]) ∧ Kd.R (Kd.int .i64) 3 w' W.heap.size (fun _ => True) v0_ r17 ∧ Below W.heap.size W w' := by
  have o0 := start_ok s hs
  rw [parse_eq] at h
  obtain ⟨⟨k, q1⟩, e0, h⟩ := Option.bind_eq_some_iff.1 h
  have o1 := ((int_step 1 i1).good.of o0 e0).ok
  unfold pTail at h
  by_cases hc : q1.ce = 0
  · rw [if_pos hc] at h
    by_cases hk : K k
    · rw [if_pos hk] at h
      rcases hk with hk | hk | hk | hk | hk | hk
      · exact dpj_0 s W o0 k q1 e0 o1 hc hk r0 r1 r2 r3 r4 r5 r6 r7 r8 r9 r10 r11 r12 r13 r14 r15 r16 r17 r18 n e (by rw [← hk]; exact h)
      · exact dpj_2 s W o0 k q1 e0 o1 hc hk r0 r1 r2 r3 r4 r5 r6 r7 r8 r9 r10 r11 r12 r13 r14 r15 r16 r17 r18 n e (by rw [← hk]; exact h)
      · exact dpj_3 s W o0 k q1 e0 o1 hc hk r0 r1 r2 r3 r4 r5 r6 r7 r8 r9 r10 r11 r12 r13 r14 r15 r16 r17 r18 n e (by rw [← hk]; exact h)
      · exact dpj_4 s W o0 k q1 e0 o1 hc hk r0 r1 r2 r3 r4 r5 r6 r7 r8 r9 r10 r11 r12 r13 r14 r15 r16 r17 r18 n e (by rw [← hk]; exact h)
      · exact dpj_5 s W o0 k q1 e0 o1 hc hk r0 r1 r2 r3 r4 r5 r6 r7 r8 r9 r10 r11 r12 r13 r14 r15 r16 r17 r18 n e (by rw [← hk]; exact h)
      · exact dpj_6 s W o0 k q1 e0 o1 hc hk r0 r1 r2 r3 r4 r5 r6 r7 r8 r9 r10 r11 r12 r13 r14 r15 r16 r17 r18 n e (by rw [← hk]; exact h)
    · rw [if_neg hk] at h
      exact dp_x s W o0 k q1 e0 o1 hc hk r0 r1 r2 r3 r4 r5 r6 r7 r8 r9 r10 r11 r12 r13 r14 r15 r16 r17 r18 n e (Option.some.inj h)
  · rw [if_neg hc] at h
    exact dp_short s W o0 k q1 e0 o1 hc r0 r1 r2 r3 r4 r5 r6 r7 r8 r9 r10 r11 r12 r13 r14 r15 r16 r17 r18 n e (Option.some.inj h)
end Go.Proofs.Ytclikkhkhoicfaa.H
