/- ServermsgMany: messages one behind the other are read one behind the other. No condition. -/
-- OPEN 0 Go.Proofs.Ytpackckoblpbfaa.RC.open_msgs fa fb fc fz : ga gb gc ge gf
import Derived.Test.YtpackckoblpbfaaOA
import Derived.Test.YtpackckoblpbfaaXx31
import Derived.Test.YtpackckoblpbfaaFM2A
import Derived.Test.YtpackckoblpbfaaXx11
import Derived.Test.YtpackckoblpbfaaOE
import Derived.Test.YtpackckoblpbfaaXx19
import Derived.Test.YtpackckoblpbfaaB0
import Derived.Test.YtpackckoblpbfaaXx18
import Derived.Test.YtpackckoblpbfaaXx16
import Derived.Test.YtpackckoblpbfaaXx20
import Derived.Test.YtpackckoblpbfaaXx49
import Derived.Test.YtpackckoblpbfaaXx37
import Derived.Test.YtpackckoblpbfaaXx39
import Derived.Test.YtpackckoblpbfaaXx7
import Derived.Test.YtpackckoblpbfaaXx8
import Derived.Test.YtpackckoblpbfaaXx14
import Derived.Test.YtpackckoblpbfaaXx12
import Derived.Test.YtpackckoblpbfaaXx13
import Derived.Test.YtpackckoblpbfaaFLI
import Derived.Test.YtpackckoblpbfaaRows
import Derived.WalkKit
import Derived.OpenShut
import Derived.Lib.SmallJoins
import Derived.Test.YtpackckoblpbfaaXx21
namespace Go.Proofs.Ytpackckoblpbfaa.O
open Go.RowKit Go.Proofs.Ytpackckoblpbfaa.X Go.Proofs.Ytpackckoblpbfaa.B Go.Proofs.YtpackckoblpbfaaW.PrintWords Go.Proofs.YtpackckoblpbfaaW.PrintLast Go.Proofs.YtpackckoblpbfaaW.PrintMore
set_option linter.unusedVariables false
set_option linter.unusedSimpArgs false
/-- In four bytes, perhaps below 0. -/
def sgL (n : Int) : ByteArray := if -2147483648 ≤ n ∧ n ≤ 2147483647 then strOfNums (beL 4 (n % 4294967296)) else ⟨#[]⟩
theorem Signed_f {k : Nat} (hk : 8 ≤ k) (n : Int) (h0 : -9223372036854775808 ≤ n) (h1 : n ≤ 9223372036854775807) : octets_Signed.f k n = some (sgL n) := by
  unfold octets_Signed.f sgL
  rw [Put_f hk]
  by_cases h : -2147483648 ≤ n ∧ n ≤ 2147483647
  · rw [if_pos (by unfold wrap64 wrap32; omega), if_pos h, if_pos (by unfold fits; omega)]
    rfl
  · rw [if_neg (by unfold wrap64 wrap32; omega), if_neg h]

end Go.Proofs.Ytpackckoblpbfaa.O
namespace Go.Proofs.Ytpackckoblpbfaa.F
open Go.RowKit Go.Proofs.YtpackckoblpbfaaW.PrintWords Go.Proofs.YtpackckoblpbfaaW.PrintLast Go.Proofs.YtpackckoblpbfaaW.PrintMore Go.Proofs.Ytpackckoblpbfaa.B Go.Proofs.Ytpackckoblpbfaa.O
set_option linter.unusedVariables false
set_option linter.unusedSimpArgs false
/-- Numbers as bytes, one behind the other, if all fit. -/
def pieces : List (Int × Int) → Option (List Int)
  | [] => some []
  | (z, n) :: l => if fits z n then (pieces l).map (beL z n ++ ·) else none
/-- Numbers as bytes, or nothing. -/
def joined (l : List (Int × Int)) (xs : List Int) : ByteArray := match pieces l with
  | none => ⟨#[]⟩
  | some ys => strOfNums (xs ++ ys ++ [0, 0, 0])
theorem joined_cons {z n : Int} {l : List (Int × Int)} {xs : List Int} (h : fits z n) : joined ((z, n) :: l) xs = joined l (xs ++ beL z n) := by
  unfold joined
  simp only [pieces, if_pos h]
  cases pieces l with
  | none => rfl
  | some ys => simp [List.append_assoc]
theorem joined_stop {z n : Int} {l : List (Int × Int)} {xs : List Int} (h : ¬ fits z n) : joined ((z, n) :: l) xs = ⟨#[]⟩ := by
  unfold joined
  simp only [pieces, if_neg h]
theorem beL_len4 {z n : Int} (h : fits z n) : (beL z n).length ≤ 4 := by
  have := beL_length h
  rcases h with ⟨rfl, _⟩ | ⟨rfl, _⟩ | ⟨rfl, _⟩ <;> omega
theorem bF_f : ∀ (l : List (Int × Int)) (xs : List Int), xs.length + 4 * l.length ≤ 1000 → X.format_bF l (strOfNums xs) = some (joined l xs)
  | [], xs, h => by
    simp only [X.format_bF]
    rw [if_pos (by rw [strOfNums_size]; simp at h; omega)]
    unfold joined
    simp only [pieces, List.append_nil]
    rw [← str_append]; rfl
  | (z, n) :: l, xs, h => by
    simp only [List.length_cons] at h
    simp only [X.format_bF]
    refine bind_eq (Put_f (by omega) _ _) ?_
    by_cases hf : fits z n
    · have h4 := beL_len4 hf
      rw [if_pos hf, if_pos rfl, if_pos (by rw [strOfNums_size, strOfNums_size]; omega), str_append, bF_f l _ (by rw [List.length_append]; omega), joined_cons hf]
    · rw [if_neg hf, if_neg (by simp), joined_stop hf]
theorem bytes_f (n d : Int) (bg tr : Bool) (m1 m2 m3 s1 s2 s3 : Int) : X.format_Bytes.f n d bg tr m1 m2 m3 s1 s2 s3 = some (joined (X.format_tens n d m1 m2 m3 s1 s2 s3 (X.format_bitI bg) (X.format_bitI tr)) []) := by
  unfold X.format_Bytes.f
  rw [← str_nil]
  exact bF_f _ _ (by unfold X.format_tens; simp)
/-- A format's bytes, if it may be. -/
def bytesL (n d : Int) (bg tr : Bool) (m1 m2 m3 s1 s2 s3 : Int) : List Int := [n, d, X.format_bitI bg, X.format_bitI tr, m1 / 256, m1 % 256, m2 / 256, m2 % 256, m3 / 256, m3 % 256, s1, s2, s3, 0, 0, 0]
theorem fits1 {n : Int} (h : 0 ≤ n ∧ n < 256) : fits 1 n := .inl ⟨rfl, h⟩
theorem fits2 {n : Int} (h : 0 ≤ n ∧ n < 65536) : fits 2 n := .inr (.inl ⟨rfl, h⟩)
theorem bitI_bd (b : Bool) : 0 ≤ X.format_bitI b ∧ X.format_bitI b < 256 := by cases b <;> decide
theorem okP_s {n m s : Int} (hn : n ≤ 32) (h : okP n m s) : 0 ≤ s ∧ s < 256 := by
  obtain ⟨k, S, hM, rfl, hs⟩ := h
  have := hM.1
  omega
theorem okP_m {n m s : Int} (h : okP n m s) : 0 ≤ m ∧ m < 65536 := by
  obtain ⟨_, _, h, _⟩ := h
  have := isM_bd h
  omega
theorem bytes_valid {n d : Int} {tr : Bool} {m1 m2 m3 s1 s2 s3 : Int} (hv : Vd n d tr m1 m2 m3 s1 s2 s3) (bg : Bool) : X.format_Bytes.f n d bg tr m1 m2 m3 s1 s2 s3 = some (strOfNums (bytesL n d bg tr m1 m2 m3 s1 s2 s3)) := by
  have hn : n ≤ 32 := by have := hv.bits; omega
  have hn0 : 0 ≤ n ∧ n < 256 := by have := hv.bits; omega
  have hd0 : 0 ≤ d ∧ d < 256 := by have := hv.depth; omega
  rw [bytes_f]
  unfold X.format_tens
  rw [joined_cons (fits1 hn0), joined_cons (fits1 hd0), joined_cons (fits1 (bitI_bd bg)), joined_cons (fits1 (bitI_bd tr)), joined_cons (fits2 (okP_m hv.p1)), joined_cons (fits2 (okP_m hv.p2)), joined_cons (fits2 (okP_m hv.p3)), joined_cons (fits1 (okP_s hn hv.p1)), joined_cons (fits1 (okP_s hn hv.p2)), joined_cons (fits1 (okP_s hn hv.p3))]
  unfold joined bytesL
  simp [pieces, beL]
end Go.Proofs.Ytpackckoblpbfaa.F
namespace Go.Proofs.Ytpackckoblpbfaa.F
open Go.RowKit Go.Proofs.YtpackckoblpbfaaW.PrintWords Go.Proofs.YtpackckoblpbfaaW.PrintLast Go.Proofs.YtpackckoblpbfaaW.PrintMore Go.Proofs.Ytpackckoblpbfaa.B Go.Proofs.Ytpackckoblpbfaa.O
set_option linter.unusedVariables false
set_option linter.unusedSimpArgs false
/-! Parse. -/
theorem parse_short (s : ByteArray) (hs : s.size < 16) : X.format_Parse.f s = some (0, 0, false, false, 0, 0, 0, 0, 0, 0, 2) := by
  have hs' : s.size ≤ 4611686018427387904 := by omega
  unfold X.format_Parse.f
  refine bind_eq (show X.octets_New.f s = some (s, 0, 0) from rfl) ?_
  obtain ⟨v1, p1, e1, q1, a1, b1, c1, d1⟩ := int_any s hs' 0 0 1 (by omega) (by omega) (.inl rfl) (by omega)
  obtain ⟨v2, p2, e2, q2, a2, b2, c2, d2⟩ := int_any s hs' p1 e1 1 a1 b1 c1 (by omega)
  obtain ⟨v3, p3, e3, q3, a3, b3, c3, d3⟩ := int_any s hs' p2 e2 1 a2 b2 c2 (by omega)
  obtain ⟨v4, p4, e4, q4, a4, b4, c4, d4⟩ := int_any s hs' p3 e3 1 a3 b3 c3 (by omega)
  obtain ⟨v5, p5, e5, q5, a5, b5, c5, d5⟩ := int_any s hs' p4 e4 2 a4 b4 c4 (by omega)
  obtain ⟨v6, p6, e6, q6, a6, b6, c6, d6⟩ := int_any s hs' p5 e5 2 a5 b5 c5 (by omega)
  obtain ⟨v7, p7, e7, q7, a7, b7, c7, d7⟩ := int_any s hs' p6 e6 2 a6 b6 c6 (by omega)
  obtain ⟨v8, p8, e8, q8, a8, b8, c8, d8⟩ := int_any s hs' p7 e7 1 a7 b7 c7 (by omega)
  obtain ⟨v9, p9, e9, q9, a9, b9, c9, d9⟩ := int_any s hs' p8 e8 1 a8 b8 c8 (by omega)
  obtain ⟨v10, p10, e10, q10, a10, b10, c10, d10⟩ := int_any s hs' p9 e9 1 a9 b9 c9 (by omega)
  obtain ⟨v11, p11, e11, q11, a11, b11, c11, d11⟩ := bytes_any s hs' p10 e10 3 a10 b10 c10 (by omega)
  have hne : e11 = 2 := by
    rcases c11 with h | h
    · obtain ⟨h10, r10⟩ := d11 h
      obtain ⟨h9, r9⟩ := d10 h10
      obtain ⟨h8, r8⟩ := d9 h9
      obtain ⟨h7, r7⟩ := d8 h8
      obtain ⟨h6, r6⟩ := d7 h7
      obtain ⟨h5, r5⟩ := d6 h6
      obtain ⟨h4, r4⟩ := d5 h5
      obtain ⟨h3, r3⟩ := d4 h4
      obtain ⟨h2, r2⟩ := d3 h3
      obtain ⟨h1, r1⟩ := d2 h2
      obtain ⟨h0, r0⟩ := d1 h1
      omega
    · exact h
  subst hne
  refine bind_eq q1 ?_
  refine bind_eq q2 ?_
  refine bind_eq q3 ?_
  refine bind_eq q4 ?_
  refine bind_eq q5 ?_
  refine bind_eq q6 ?_
  refine bind_eq q7 ?_
  refine bind_eq q8 ?_
  refine bind_eq q9 ?_
  refine bind_eq q10 ?_
  refine bind_eq q11 ?_
  refine bind_eq (show X.octets_Cursor_Err.f s p11 2 = some (2, s, p11, 2) from rfl) ?_
  rw [if_neg (show ¬ ((2 : Int) = 0) by decide)]
  exact bind_eq (show X.octets_Cursor_Err.f s p11 2 = some (2, s, p11, 2) from rfl) rfl
theorem parse_long (s : ByteArray) (hs : s.size ≤ 4611686018427387904) (h16 : 16 ≤ s.size) (l : List Int) (hl : bytesOf s = l) (b : Bool)
    (hb : X.format_Valid.f (l.getD 0 0) (l.getD 1 0) (l.getD 2 0 != 0) (l.getD 3 0 != 0) (l.getD 4 0 * 256 + l.getD 5 0) (l.getD 6 0 * 256 + l.getD 7 0) (l.getD 8 0 * 256 + l.getD 9 0) (l.getD 10 0) (l.getD 11 0) (l.getD 12 0) = some b) :
    X.format_Parse.f s = some (if b = true then (l.getD 0 0, l.getD 1 0, (l.getD 2 0 != 0), (l.getD 3 0 != 0), l.getD 4 0 * 256 + l.getD 5 0, l.getD 6 0 * 256 + l.getD 7 0, l.getD 8 0 * 256 + l.getD 9 0, l.getD 10 0, l.getD 11 0, l.getD 12 0, 0) else (0, 0, false, false, 0, 0, 0, 0, 0, 0, 130)) := by
  subst hl
  have q1 := int1_ok s hs 0 (by omega)
  have q2 := int1_ok s hs 1 (by omega)
  have q3 := int1_ok s hs 2 (by omega)
  have q4 := int1_ok s hs 3 (by omega)
  have q5 := int2_ok s hs 4 (by omega)
  have q6 := int2_ok s hs 6 (by omega)
  have q7 := int2_ok s hs 8 (by omega)
  have q8 := int1_ok s hs 10 (by omega)
  have q9 := int1_ok s hs 11 (by omega)
  have q10 := int1_ok s hs 12 (by omega)
  have q11 := bytes_ok s hs 13 3 (by omega)
  unfold X.format_Parse.f
  refine bind_eq (show X.octets_New.f s = some (s, 0, 0) from rfl) ?_
  refine bind_eq q1 ?_
  refine bind_eq q2 ?_
  refine bind_eq q3 ?_
  refine bind_eq q4 ?_
  refine bind_eq q5 ?_
  refine bind_eq q6 ?_
  refine bind_eq q7 ?_
  refine bind_eq q8 ?_
  refine bind_eq q9 ?_
  refine bind_eq q10 ?_
  refine bind_eq q11 ?_
  refine bind_eq (show X.octets_Cursor_Err.f s ((13 + 3 : Nat) : Int) 0 = some (0, s, ((13 + 3 : Nat) : Int), 0) from rfl) ?_
  rw [if_pos rfl]
  refine bind_eq hb ?_
  cases b <;> rfl
end Go.Proofs.Ytpackckoblpbfaa.F
namespace Go.Proofs.Ytpackckoblpbfaa.F
open Go.RowKit Go.Proofs.YtpackckoblpbfaaW.PrintWords Go.Proofs.YtpackckoblpbfaaW.PrintLast Go.Proofs.YtpackckoblpbfaaW.PrintMore Go.Proofs.Ytpackckoblpbfaa.B Go.Proofs.Ytpackckoblpbfaa.O
set_option linter.unusedVariables false
set_option linter.unusedSimpArgs false
theorem bitI_ne (b : Bool) : (X.format_bitI b != 0) = b := by cases b <;> rfl
/-- A format's bytes are its bytes again, whatever stands behind. -/
theorem parse_back {n d : Int} {tr : Bool} {m1 m2 m3 s1 s2 s3 : Int} (hv : Vd n d tr m1 m2 m3 s1 s2 s3) (bg : Bool) (hb : X.format_Valid.f n d bg tr m1 m2 m3 s1 s2 s3 = some true) (t : ByteArray) (ht : t.size ≤ 1000000) : X.format_Parse.f (strOfNums (bytesL n d bg tr m1 m2 m3 s1 s2 s3) ++ t) = some (n, d, bg, tr, m1, m2, m3, s1, s2, s3, 0) := by
  have hn : n ≤ 32 := by have := hv.bits; omega
  have hn0 : 0 ≤ n := by have := hv.bits; omega
  have hd := hv.depth
  have r1 := okP_m hv.p1
  have r2 := okP_m hv.p2
  have r3 := okP_m hv.p3
  have u1 := okP_s hn hv.p1
  have u2 := okP_s hn hv.p2
  have u3 := okP_s hn hv.p3
  have hR : ∀ x ∈ bytesL n d bg tr m1 m2 m3 s1 s2 s3, 0 ≤ x ∧ x < 256 := by
    have c1 := bitI_bd bg
    have c2 := bitI_bd tr
    intro x hx
    simp only [bytesL, List.mem_cons, List.not_mem_nil, or_false] at hx
    omega
  have hsz : (strOfNums (bytesL n d bg tr m1 m2 m3 s1 s2 s3) ++ t).size = 16 + t.size := by rw [ba_size_append, strOfNums_size]; rfl
  have hl : bytesOf (strOfNums (bytesL n d bg tr m1 m2 m3 s1 s2 s3) ++ t) = bytesL n d bg tr m1 m2 m3 s1 s2 s3 ++ bytesOf t := by rw [bytes_append, bytes_str hR]
  have g : ∀ m : Int, m / 256 * 256 + m % 256 = m := fun m => by omega
  have e := parse_long _ (by omega) (by omega) _ hl true (by
    simp only [bytesL, List.cons_append, List.getD_cons_zero, List.getD_cons_succ]
    rw [bitI_ne, bitI_ne, g, g, g]
    exact hb)
  rw [e, if_pos rfl]
  simp only [bytesL, List.cons_append, List.getD_cons_zero, List.getD_cons_succ]
  rw [bitI_ne, bitI_ne, g, g, g]
end Go.Proofs.Ytpackckoblpbfaa.F
namespace Go.Proofs.Ytpackckoblpbfaa.H
set_option linter.unusedVariables false
open Go.Proofs.Ytpackckoblpbfaa.X
/-- A reader that stands within its text. -/
def Ok (q : RS) : Prop := q.s.size ≤ 4611686018427387904 ∧ 0 ≤ q.at_ ∧ q.at_ ≤ (q.s.size : Int) ∧ (q.ce = 0 ∨ q.ce = 2) ∧ q.re ≠ 2
/-- Something was wrong, or it stands behind L. -/
def U2 (L : Int) (q : RS) : Prop := q.ce ≠ 0 ∨ q.re ≠ 0 ∨ L < q.at_
structure Goes (q p : RS) : Prop where
  ok : Ok p
  s : p.s = q.s
  u1 : q.ce = 2 → q.re = 0 → p.ce = 2 ∧ p.re = 0
  u2 : ∀ L, U2 L q → U2 L p
  u3 : q.re ≠ 0 → p.re = q.re
theorem Goes.refl {q : RS} (h : Ok q) : Goes q q := ⟨h, rfl, fun a b => ⟨a, b⟩, fun _ h => h, fun _ => rfl⟩
theorem Goes.trans {q p r : RS} (h : Goes q p) (k : Goes p r) : Goes q r :=
  ⟨k.ok, k.s.trans h.s, fun a b => k.u1 (h.u1 a b).1 (h.u1 a b).2, fun L u => k.u2 L (h.u2 L u), fun a => (k.u3 (by rw [h.u3 a]; exact a)).trans (h.u3 a)⟩
/-- It answers (P holds of what it answers), and the reader goes on. -/
def Good {α : Type} (P : α → Prop) (f : RS → Option (α × RS)) : Prop := ∀ q, Ok q → ∃ v p, f q = some (v, p) ∧ P v ∧ Goes q p
/-- Over a text and a longer one: in step. -/
def Sync (t : ByteArray) (q p : RS) : Prop := p.s = q.s ++ t ∧ p.at_ = q.at_ ∧ q.ce = 0 ∧ p.ce = 0 ∧ q.re = 0 ∧ p.re = 0
/-- Out of step: the shorter text was too short, or one error stands in both. -/
def Off (q p : RS) : Prop := (q.ce = 2 ∧ q.re = 0 ∧ U2 (q.s.size : Int) p) ∨ (q.re ≠ 0 ∧ p.re = q.re)
def Lock {α : Type} (P : α → Prop) (f : RS → Option (α × RS)) : Prop := ∀ t q q', Ok q → Ok q' → Sync t q q' → ∃ v v' p p', f q = some (v, p) ∧ f q' = some (v', p') ∧ P v ∧ P v' ∧ Ok p ∧ Ok p' ∧ p.s = q.s ∧ ((Sync t p p' ∧ v = v') ∨ Off p p')
theorem Off.goes {q p q2 p2 : RS} (h : Off q p) (a : Goes q q2) (b : Goes p p2) : Off q2 p2 := by
  rcases h with ⟨h1, h2, h3⟩ | ⟨h1, h2⟩
  · obtain ⟨k1, k2⟩ := a.u1 h1 h2
    exact .inl ⟨k1, k2, by rw [a.s]; exact b.u2 _ h3⟩
  · refine .inr ⟨by rw [a.u3 h1]; exact h1, ?_⟩
    rw [a.u3 h1, b.u3 (by rw [h2]; exact h1), h2]
section
variable {α β : Type}
theorem Good.pure {P : α → Prop} (v : α) (hv : P v) : Good P (fun q => some (v, q)) := fun q h => ⟨v, q, rfl, hv, Goes.refl h⟩
theorem Lock.pure {P : α → Prop} (v : α) (hv : P v) : Lock P (fun q => some (v, q)) := fun _ q q' h h' hs => ⟨v, v, q, q', rfl, rfl, hv, hv, h, h', rfl, .inl ⟨hs, rfl⟩⟩
theorem Good.bind {P : α → Prop} {Q : β → Prop} {f : RS → Option (α × RS)} {g : α → RS → Option (β × RS)} (hf : Good P f) (hg : ∀ v, P v → Good Q (g v)) : Good Q (fun q => (f q).bind fun p => g p.1 p.2) := fun q h => by
  obtain ⟨v, p, e1, hv, h1⟩ := hf q h
  obtain ⟨u, r, e2, hu, h2⟩ := hg v hv p h1.ok
  exact ⟨u, r, by show (f q).bind _ = _; rw [e1]; exact e2, hu, h1.trans h2⟩
theorem Lock.bind {P : α → Prop} {Q : β → Prop} {f : RS → Option (α × RS)} {g : α → RS → Option (β × RS)} (hf : Lock P f) (hg : ∀ v, P v → Good Q (g v)) (hl : ∀ v, P v → Lock Q (g v)) : Lock Q (fun q => (f q).bind fun p => g p.1 p.2) := fun t q q' h h' hs => by
  obtain ⟨v, v', p, p', e1, e2, hv, hv', o1, o2, es, hc⟩ := hf t q q' h h' hs
  rcases hc with ⟨hs2, rfl⟩ | hoff
  · obtain ⟨u, u', r, r', a1, a2, b1, b2, a3, a4, a5, a6⟩ := hl v hv t p p' o1 o2 hs2
    exact ⟨u, u', r, r', by show (f q).bind _ = _; rw [e1]; exact a1, by show (f q').bind _ = _; rw [e2]; exact a2, b1, b2, a3, a4, a5.trans es, a6⟩
  · obtain ⟨u, r, a1, hu, a2⟩ := hg v hv p o1
    obtain ⟨u', r', b1, hu', b2⟩ := hg v' hv' p' o2
    exact ⟨u, u', r, r', by show (f q).bind _ = _; rw [e1]; exact a1, by show (f q').bind _ = _; rw [e2]; exact b1, hu, hu', a2.ok, b2.ok, a2.s.trans es, .inr (hoff.goes a2 b2)⟩
theorem Good.ite {P : α → Prop} {c : Prop} [Decidable c] {f g : RS → Option (α × RS)} (hf : c → Good P f) (hg : ¬ c → Good P g) : Good P (fun q => if c then f q else g q) := fun q h => by
  by_cases hc : c
  · simpa [hc] using hf hc q h
  · simpa [hc] using hg hc q h
theorem Lock.ite {P : α → Prop} {c : Prop} [Decidable c] {f g : RS → Option (α × RS)} (hf : c → Lock P f) (hg : ¬ c → Lock P g) : Lock P (fun q => if c then f q else g q) := fun t q q' h h' hs => by
  by_cases hc : c
  · simpa [hc] using hf hc t q q' h h' hs
  · simpa [hc] using hg hc t q q' h h' hs
theorem Good.weak {P Q : α → Prop} {f : RS → Option (α × RS)} (h : Good P f) (hq : ∀ v, P v → Q v) : Good Q f := fun q o => by
  obtain ⟨v, p, e, hv, g⟩ := h q o
  exact ⟨v, p, e, hq v hv, g⟩
end
/-- The reader's own error, set. -/
theorem fail_good (is : Bool) (e : Int) (he : e ≠ 2) : Good (fun _ => True) (fun q => some ((), failS q is e)) := fun q h => by
  refine ⟨(), _, rfl, trivial, ?_⟩
  unfold failS
  by_cases hc : is = true ∧ q.ce = 0 ∧ q.re = 0
  · rw [if_pos hc]
    obtain ⟨h1, h2, h3⟩ := hc
    obtain ⟨k1, k2, k3, k4, k5⟩ := h
    refine ⟨⟨k1, k2, k3, k4, he⟩, rfl, fun a => ?_, fun L u => ?_, fun a => absurd h3 a⟩
    · rw [h2] at a; cases a
    · rcases u with u | u | u
      · exact absurd h2 u
      · exact absurd h3 u
      · exact .inr (.inr u)
  · rw [if_neg hc]
    exact Goes.refl h
theorem fail_lock (is : Bool) (e : Int) (he : e ≠ 2) : Lock (fun _ => True) (fun q => some ((), failS q is e)) := fun t q q' h h' hs => by
  obtain ⟨s1, s2, s3, s4, s5, s6⟩ := hs
  obtain ⟨k1, k2, k3, k4, k5⟩ := h
  obtain ⟨m1, m2, m3, m4, m5⟩ := h'
  refine ⟨(), (), _, _, rfl, rfl, trivial, trivial, ?_⟩
  unfold failS
  cases is with
  | false =>
    rw [if_neg (by simp), if_neg (by simp)]
    exact ⟨⟨k1, k2, k3, k4, k5⟩, ⟨m1, m2, m3, m4, m5⟩, rfl, .inl ⟨⟨s1, s2, s3, s4, s5, s6⟩, rfl⟩⟩
  | true =>
    rw [if_pos ⟨rfl, s3, s5⟩, if_pos ⟨rfl, s4, s6⟩]
    refine ⟨⟨k1, k2, k3, k4, he⟩, ⟨m1, m2, m3, m4, he⟩, rfl, ?_⟩
    by_cases h0 : e = 0
    · subst h0
      exact .inl ⟨⟨s1, s2, s3, s4, rfl, rfl⟩, rfl⟩
    · exact .inr (.inr ⟨h0, rfl⟩)
/-- What the law asks of a text and a longer one. -/
def afterP (n e m f long : Int) : Prop := (e = 0 → f = 0 ∧ n = m ∧ n ≤ long) ∧ (e = 2 → n = 0 ∧ (f ≠ 0 ∨ long < m)) ∧ (e ≠ 0 → e ≠ 2 → n = 0 ∧ f = e)
theorem lock_after {α : Type} {P : α → Prop} {f : RS → Option (α × RS)} (hf : Lock P f) (s t : ByteArray) (h1 : s.size ≤ 4611686018427387904) (h2 : (s ++ t).size ≤ 4611686018427387904) : ∃ v v' p p', f ⟨s, 0, 0, 0⟩ = some (v, p) ∧ f ⟨s ++ t, 0, 0, 0⟩ = some (v', p') ∧
    afterP (if p.re = 0 ∧ p.ce = 0 then p.at_ else 0) (if p.re = 0 then p.ce else p.re) (if p'.re = 0 ∧ p'.ce = 0 then p'.at_ else 0) (if p'.re = 0 then p'.ce else p'.re) s.size := by
  obtain ⟨v, v', p, p', e1, e2, _, _, o1, o2, es, hc⟩ := hf t ⟨s, 0, 0, 0⟩ ⟨s ++ t, 0, 0, 0⟩ ⟨h1, Int.le_refl _, Int.natCast_nonneg _, .inl rfl, fun h => absurd h (show ¬ ((0 : Int) = 2) by decide)⟩ ⟨h2, Int.le_refl _, Int.natCast_nonneg _, .inl rfl, fun h => absurd h (show ¬ ((0 : Int) = 2) by decide)⟩ ⟨rfl, rfl, rfl, rfl, rfl, rfl⟩
  refine ⟨v, v', p, p', e1, e2, ?_⟩
  obtain ⟨k1, k2, k3, k4, k5⟩ := o1
  rw [es] at k3
  rcases hc with ⟨⟨s1, s2, s3, s4, s5, s6⟩, _⟩ | ⟨c1, c2, c3⟩ | ⟨c1, c2⟩
  · simp only [s3, s4, s5, s6, s2]
    exact ⟨fun _ => ⟨rfl, rfl, k3⟩, fun h => by simp at h, fun h => absurd rfl h⟩
  · simp only [c1, c2]
    refine ⟨fun h => by simp at h, fun _ => ⟨by simp, ?_⟩, fun _ h => absurd rfl h⟩
    rw [es] at c3
    rcases c3 with u | u | u
    · left
      by_cases hr : p'.re = 0
      · rw [if_pos hr]; exact u
      · rw [if_neg hr]; exact hr
    · left
      rw [if_neg u]; exact u
    · by_cases hr : p'.re = 0 ∧ p'.ce = 0
      · right; rw [if_pos hr]; exact u
      · left
        by_cases hr2 : p'.re = 0
        · rw [if_pos hr2]; exact fun h => hr ⟨hr2, h⟩
        · rw [if_neg hr2]; exact hr2
  · have c3 : p'.re ≠ 0 := by rw [c2]; exact c1
    rw [if_neg (fun h => c1 h.1), if_neg c1, if_neg (fun h => c3 h.1), if_neg c3, c2]
    exact ⟨fun h => absurd h c1, fun h => absurd h k5, fun _ _ => ⟨rfl, rfl⟩⟩
end Go.Proofs.Ytpackckoblpbfaa.H
namespace Go.Proofs.Ytpackckoblpbfaa.H
set_option linter.unusedVariables false
open Go.RowKit Go.Proofs.Ytpackckoblpbfaa.X Go.Proofs.Ytpackckoblpbfaa.B Go.Proofs.Ytpackckoblpbfaa.O Go.Proofs.YtpackckoblpbfaaW.PrintWords Go.Proofs.YtpackckoblpbfaaW.PrintLast Go.Proofs.YtpackckoblpbfaaW.PrintMore
theorem rdB_e {s : ByteArray} {p e n : Int} (he : e ≠ 0) : rdB s p e n = (⟨#[]⟩, p, e) := if_pos he
theorem rdB_m {s : ByteArray} {p n : Int} (hn : 0 ≤ n) (hl : n > (s.size : Int) - p) : rdB s p 0 n = (⟨#[]⟩, p, 2) := by
  unfold rdB
  rw [if_neg (by decide), if_neg (by omega), if_pos hl]
theorem rdB_i {s : ByteArray} {p n : Int} (hn : 0 ≤ n) (hl : ¬ n > (s.size : Int) - p) : rdB s p 0 n = (s.extract p.toNat (p + n).toNat, p + n, 0) := by
  unfold rdB
  rw [if_neg (by decide), if_neg (by omega), if_neg hl]
def afterR (q : RS) (r : ByteArray × Int × Int) : RS := ⟨q.s, r.2.1, r.2.2, q.re⟩
theorem rd_goes (q : RS) (n : Int) (hn : 0 ≤ n) (h : Ok q) : Goes q (afterR q (rdB q.s q.at_ q.ce n)) := by
  obtain ⟨s, p, e, r⟩ := q
  obtain ⟨k1, k2, k3, k4, k5⟩ := h
  by_cases hc : e = 0
  · subst hc
    by_cases hl : n > (s.size : Int) - p
    · show Goes _ (afterR _ (rdB s p 0 n))
      rw [rdB_m hn hl]
      exact ⟨⟨k1, k2, k3, .inr rfl, k5⟩, rfl, fun a => absurd (show (0 : Int) = 2 from a) (by decide), fun L u => .inl (show (2 : Int) ≠ 0 by decide), fun _ => rfl⟩
    · show Goes _ (afterR _ (rdB s p 0 n))
      rw [rdB_i hn hl]
      have k2 : 0 ≤ p := k2
      refine ⟨⟨k1, show 0 ≤ p + n by omega, show p + n ≤ (s.size : Int) by omega, .inl rfl, k5⟩, rfl, fun a => absurd (show (0 : Int) = 2 from a) (by decide), fun L u => ?_, fun _ => rfl⟩
      rcases u with u | u | u
      · exact absurd rfl u
      · exact .inr (.inl u)
      · have u : L < p := u
        exact .inr (.inr (show L < p + n by omega))
  · show Goes _ (afterR _ (rdB s p e n))
    rw [rdB_e hc]
    exact ⟨⟨k1, k2, k3, k4, k5⟩, rfl, fun a b => ⟨a, b⟩, fun L u => u, fun _ => rfl⟩
theorem ext_left (s t : ByteArray) (a b : Nat) (h : b ≤ s.size) : (s ++ t).extract a b = s.extract a b := by
  apply ByteArray.ext
  rw [ByteArray.data_extract, ByteArray.data_extract, ByteArray.data_append]
  apply Array.toList_inj.mp
  have h : b ≤ s.data.toList.length := by rw [Array.length_toList]; exact h
  simp only [Array.toList_extract, Array.toList_append, List.extract_eq_take_drop]
  rcases Nat.le_total a b with hab | hab
  · rw [List.drop_append_of_le_length (by omega), List.take_append_of_le_length (by rw [List.length_drop]; omega)]
  · rw [Nat.sub_eq_zero_of_le hab, List.take_zero, List.take_zero]
theorem rd_lock (t : ByteArray) (q q' : RS) (n : Int) (hn : 0 ≤ n) (h : Ok q) (h' : Ok q') (hs : Sync t q q') :
    (Sync t (afterR q (rdB q.s q.at_ q.ce n)) (afterR q' (rdB q'.s q'.at_ q'.ce n)) ∧ (rdB q.s q.at_ q.ce n).1 = (rdB q'.s q'.at_ q'.ce n).1) ∨ Off (afterR q (rdB q.s q.at_ q.ce n)) (afterR q' (rdB q'.s q'.at_ q'.ce n)) := by
  obtain ⟨s, p, e, r⟩ := q
  obtain ⟨s', p', e', r'⟩ := q'
  obtain ⟨s1, s2, s3, s4, s5, s6⟩ := hs
  obtain ⟨k1, k2, k3, k4, k5⟩ := h
  have s1 : s' = s ++ t := s1
  have s2 : p' = p := s2
  have s3 : e = 0 := s3
  have s4 : e' = 0 := s4
  have s5 : r = 0 := s5
  have s6 : r' = 0 := s6
  have k2 : 0 ≤ p := k2
  have k3 : p ≤ (s.size : Int) := k3
  subst s1 s2 s3 s4 s5 s6
  have hz : (s ++ t).size = s.size + t.size := ByteArray.size_append
  show (Sync t (afterR _ (rdB s p' 0 n)) (afterR _ (rdB (s ++ t) p' 0 n)) ∧ (rdB s p' 0 n).1 = (rdB (s ++ t) p' 0 n).1) ∨ Off (afterR _ (rdB s p' 0 n)) (afterR _ (rdB (s ++ t) p' 0 n))
  by_cases hl : n > (s.size : Int) - p'
  · rw [rdB_m hn hl]
    refine .inr (.inl ⟨rfl, rfl, ?_⟩)
    by_cases hl2 : n > ((s ++ t).size : Int) - p'
    · rw [rdB_m hn hl2]; exact .inl (show (2 : Int) ≠ 0 by decide)
    · rw [rdB_i hn hl2]; exact .inr (.inr (show (s.size : Int) < p' + n by omega))
  · rw [rdB_i hn hl, rdB_i hn (by rw [hz]; omega)]
    refine .inl ⟨⟨rfl, rfl, rfl, rfl, rfl, rfl⟩, ?_⟩
    show s.extract _ _ = (s ++ t).extract _ _
    rw [ext_left s t _ _ (by omega)]
end Go.Proofs.Ytpackckoblpbfaa.H
namespace Go.Proofs.Ytpackckoblpbfaa.H
set_option linter.unusedVariables false
open Go.RowKit Go.Proofs.Ytpackckoblpbfaa.X Go.Proofs.Ytpackckoblpbfaa.B Go.Proofs.Ytpackckoblpbfaa.O Go.Proofs.YtpackckoblpbfaaW.PrintWords Go.Proofs.YtpackckoblpbfaaW.PrintLast Go.Proofs.YtpackckoblpbfaaW.PrintMore
theorem asked_e {n : Int} (hn : n = 1 ∨ n = 2 ∨ n = 4) (e : Int) : asked e n = e := by unfold asked; rw [if_neg (fun h => h.2 hn)]
theorem intS_eq (q : RS) (n : Int) (hn : n = 1 ∨ n = 2 ∨ n = 4) (h : Ok q) : intS q n = some (beN (bytesOf (rdB q.s q.at_ q.ce n).1), afterR q (rdB q.s q.at_ q.ce n)) := by
  obtain ⟨k1, k2, k3, _⟩ := h
  unfold intS
  rw [Int_f q.s q.at_ q.ce n k1 k2 k3, asked_e hn]
  rfl
theorem bytesS_eq (q : RS) (n : Int) (h : Ok q) : bytesS q n = some ((rdB q.s q.at_ q.ce n).1, afterR q (rdB q.s q.at_ q.ce n)) := by
  obtain ⟨k1, k2, k3, _⟩ := h
  unfold bytesS
  rw [Bytes_f q.s q.at_ q.ce n k1 k2 k3]
  rfl
theorem signedS_eq (q : RS) (h : Ok q) : signedS q = some (wrap64 (wrap32 (beN (bytesOf (rdB q.s q.at_ q.ce 4).1))), afterR q (rdB q.s q.at_ q.ce 4)) := by
  obtain ⟨k1, k2, k3, _⟩ := h
  unfold signedS octets_Cursor_Signed.f
  rw [Int_f q.s q.at_ q.ce 4 k1 k2 k3, asked_e (.inr (.inr rfl))]
  rfl
theorem beN_nn (l : List Int) (h : ∀ x ∈ l, 0 ≤ x ∧ x < 256) : 0 ≤ beN l := by
  have key : ∀ (l : List Int) (a : Int), 0 ≤ a → (∀ x ∈ l, 0 ≤ x ∧ x < 256) → 0 ≤ l.foldl (fun a x => a * 256 + x) a := by
    intro l
    induction l with
    | nil => intro a ha _; exact ha
    | cons y l ih => intro a ha hl; exact ih (a * 256 + y) (by have := (hl y (List.mem_cons_self ..)).1; omega) (fun x hx => hl x (List.mem_cons_of_mem _ hx))
  exact key l 0 (Int.le_refl _) h
theorem val_ok (q : RS) (n : Int) (h : Ok q) : 0 ≤ beN (bytesOf (rdB q.s q.at_ q.ce n).1) ∧ (n = 1 → beN (bytesOf (rdB q.s q.at_ q.ce n).1) ≤ 255) := by
  refine ⟨beN_nn _ (fun x hx => bytes_range _ x hx), fun h1 => ?_⟩
  subst h1
  have hz := rdB_size q.s q.at_ q.ce 1 h.2.1 h.2.2.1
  generalize (rdB q.s q.at_ q.ce 1).1 = b at *
  have hl : (bytesOf b).length ≤ 1 := by rw [bytesOf_length]; omega
  have hr := bytes_range b
  generalize bytesOf b = l at *
  match l, hl with
  | [], _ => simp [beN]
  | [x], _ => have := hr x (by simp); simp [beN]; omega
  | _ :: _ :: _, hl => simp at hl
theorem int_good (n : Int) (hn : n = 1 ∨ n = 2 ∨ n = 4) : Good (fun v => 0 ≤ v ∧ (n = 1 → v ≤ 255)) (fun q => intS q n) := fun q h =>
  ⟨_, _, intS_eq q n hn h, val_ok q n h, rd_goes q n (by omega) h⟩
theorem bytes_good (n : Int) (hn : 0 ≤ n) : Good (fun _ => True) (fun q => bytesS q n) := fun q h => ⟨_, _, bytesS_eq q n h, trivial, rd_goes q n hn h⟩
theorem signed_good : Good (fun _ => True) (fun q => signedS q) := fun q h => ⟨_, _, signedS_eq q h, trivial, rd_goes q 4 (by decide) h⟩
theorem int_lock (n : Int) (hn : n = 1 ∨ n = 2 ∨ n = 4) : Lock (fun v => 0 ≤ v ∧ (n = 1 → v ≤ 255)) (fun q => intS q n) := fun t q q' h h' hs =>
  ⟨_, _, _, _, intS_eq q n hn h, intS_eq q' n hn h', val_ok q n h, val_ok q' n h', (rd_goes q n (by omega) h).ok, (rd_goes q' n (by omega) h').ok, rfl, (rd_lock t q q' n (by omega) h h' hs).imp (fun ⟨a, b⟩ => ⟨a, by rw [b]⟩) id⟩
theorem bytes_lock (n : Int) (hn : 0 ≤ n) : Lock (fun _ => True) (fun q => bytesS q n) := fun t q q' h h' hs =>
  ⟨_, _, _, _, bytesS_eq q n h, bytesS_eq q' n h', trivial, trivial, (rd_goes q n hn h).ok, (rd_goes q' n hn h').ok, rfl, rd_lock t q q' n hn h h' hs⟩
theorem signed_lock : Lock (fun _ => True) (fun q => signedS q) := fun t q q' h h' hs =>
  ⟨_, _, _, _, signedS_eq q h, signedS_eq q' h', trivial, trivial, (rd_goes q 4 (by decide) h).ok, (rd_goes q' 4 (by decide) h').ok, rfl, (rd_lock t q q' 4 (by decide) h h' hs).imp (fun ⟨a, b⟩ => ⟨a, by rw [b]⟩) id⟩
/-- A branch on the reader's own error. -/
theorem Good.onRe {α : Type} {P : α → Prop} {f g : RS → Option (α × RS)} (hf : Good P f) (hg : Good P g) : Good P (fun q => if q.re = 0 then f q else g q) := fun q h => by
  by_cases hc : q.re = 0
  · simpa [hc] using hf q h
  · simpa [hc] using hg q h
theorem Lock.onRe {α : Type} {P : α → Prop} {f g : RS → Option (α × RS)} (hf : Lock P f) : Lock P (fun q => if q.re = 0 then f q else g q) := fun t q q' h h' hs => by
  have h1 := hs.2.2.2.2.1
  have h2 := hs.2.2.2.2.2
  obtain ⟨v, v', p, p', a⟩ := hf t q q' h h' hs
  exact ⟨v, v', p, p', by simpa [h1] using a.1, by simpa [h2] using a.2.1, a.2.2⟩
theorem text_eq : textS = fun q => (intS q 4).bind fun p => (fun n q => (some ((), failS q (decide (4096 < n)) 4)).bind fun r => (fun q => if q.re = 0 then bytesS q n else some (⟨#[]⟩, q)) r.2) p.1 p.2 := by
  funext q
  unfold textS
  rfl
theorem text_good : Good (fun _ => True) textS := by
  rw [text_eq]
  exact (int_good 4 (.inr (.inr rfl))).bind (fun n hn => (fail_good (decide (4096 < n)) 4 (by decide)).bind (g := fun _ q => if q.re = 0 then bytesS q n else some (⟨#[]⟩, q)) (fun _ _ => (bytes_good n hn.1).onRe (Good.pure _ trivial)))
theorem text_lock : Lock (fun _ => True) textS := by
  rw [text_eq]
  exact (int_lock 4 (.inr (.inr rfl))).bind (fun n hn => (fail_good (decide (4096 < n)) 4 (by decide)).bind (g := fun _ q => if q.re = 0 then bytesS q n else some (⟨#[]⟩, q)) (fun _ _ => (bytes_good n hn.1).onRe (Good.pure _ trivial)))
    (fun n hn => (fail_lock (decide (4096 < n)) 4 (by decide)).bind (g := fun _ q => if q.re = 0 then bytesS q n else some (⟨#[]⟩, q)) (fun _ _ => (bytes_good n hn.1).onRe (Good.pure _ trivial)) (fun _ _ => (bytes_lock n hn.1).onRe))
end Go.Proofs.Ytpackckoblpbfaa.H
namespace Go.Proofs.Ytpackckoblpbfaa.H
set_option linter.unusedVariables false
open Go.RowKit Go.Proofs.Ytpackckoblpbfaa.X Go.Proofs.Ytpackckoblpbfaa.B Go.Proofs.Ytpackckoblpbfaa.O Go.Proofs.YtpackckoblpbfaaW.PrintWords Go.Proofs.YtpackckoblpbfaaW.PrintLast Go.Proofs.YtpackckoblpbfaaW.PrintMore
def Any {α : Type} : α → Prop := fun _ => True
def rA (t : ByteArray) (q : RS) : Option (ByteArray × RS) := if t.size = 0 then some (⟨#[63]⟩, q) else some (t, q)
def rB (n : Int) (q : RS) : Option (ByteArray × RS) := if n = 0 then some (⟨#[]⟩, q) else (textS q).bind fun p => rA p.1 p.2
theorem rA_good (t : ByteArray) : Good Any (rA t) := Good.ite (f := fun q => some ((⟨#[63]⟩ : ByteArray), q)) (g := fun q => some (t, q)) (fun _ => Good.pure _ trivial) (fun _ => Good.pure _ trivial)
theorem rA_lock (t : ByteArray) : Lock Any (rA t) := Lock.ite (f := fun q => some ((⟨#[63]⟩ : ByteArray), q)) (g := fun q => some (t, q)) (fun _ => Lock.pure _ trivial) (fun _ => Lock.pure _ trivial)
theorem rB_good (n : Int) : Good Any (rB n) := Good.ite (f := fun q => some ((⟨#[]⟩ : ByteArray), q)) (g := fun q => (textS q).bind fun p => rA p.1 p.2) (fun _ => Good.pure _ trivial) (fun _ => Good.bind (g := rA) text_good (fun t _ => rA_good t))
theorem rB_lock (n : Int) : Lock Any (rB n) := Lock.ite (f := fun q => some ((⟨#[]⟩ : ByteArray), q)) (g := fun q => (textS q).bind fun p => rA p.1 p.2) (fun _ => Lock.pure _ trivial) (fun _ => Lock.bind (g := rA) text_lock (fun t _ => rA_good t) (fun t _ => rA_lock t))
theorem result_lock : Lock Any resultS := Lock.bind (g := rB) (int_lock 4 (.inr (.inr rfl))) (fun n _ => rB_good n) (fun n _ => rB_lock n)
def hE (a b c d e : Int) (q : RS) : Option ((Int × Int × Int × Int × Int) × RS) := some ((a, b, c, d, e), q)
def hD (a b c d : Int) (q : RS) := (signedS q).bind fun p => hE a b c d p.1 p.2
def hC (a b c : Int) (q : RS) := (intS q 2).bind fun p => hD a b c p.1 p.2
def hB (a b : Int) (q : RS) := (intS q 2).bind fun p => hC a b p.1 p.2
def hA (a : Int) (q : RS) := (intS q 2).bind fun p => hB a p.1 p.2
theorem i2 : (2 : Int) = 1 ∨ (2 : Int) = 2 ∨ (2 : Int) = 4 := .inr (.inl rfl)
theorem hD_good (a b c d : Int) : Good Any (hD a b c d) := Good.bind (g := hE a b c d) signed_good (fun e _ => Good.pure (a, b, c, d, e) trivial)
theorem hC_good (a b c : Int) : Good Any (hC a b c) := Good.bind (g := hD a b c) (int_good 2 i2) (fun d _ => hD_good a b c d)
theorem hB_good (a b : Int) : Good Any (hB a b) := Good.bind (g := hC a b) (int_good 2 i2) (fun d _ => hC_good a b d)
theorem hA_good (a : Int) : Good Any (hA a) := Good.bind (g := hB a) (int_good 2 i2) (fun d _ => hB_good a d)
theorem hD_lock (a b c d : Int) : Lock Any (hD a b c d) := Lock.bind (g := hE a b c d) signed_lock (fun e _ => Good.pure (a, b, c, d, e) trivial) (fun e _ => Lock.pure (a, b, c, d, e) trivial)
theorem hC_lock (a b c : Int) : Lock Any (hC a b c) := Lock.bind (g := hD a b c) (int_lock 2 i2) (fun d _ => hD_good a b c d) (fun d _ => hD_lock a b c d)
theorem hB_lock (a b : Int) : Lock Any (hB a b) := Lock.bind (g := hC a b) (int_lock 2 i2) (fun d _ => hC_good a b d) (fun d _ => hC_lock a b d)
theorem hA_lock (a : Int) : Lock Any (hA a) := Lock.bind (g := hB a) (int_lock 2 i2) (fun d _ => hB_good a d) (fun d _ => hB_lock a d)
theorem head_lock : Lock Any headS := Lock.bind (g := hA) (int_lock 2 i2) (fun d _ => hA_good d) (fun d _ => hA_lock d)
def mN (n : Int) (q : RS) : Option ((Int × Int × ByteArray) × RS) := some ((6, n, ⟨#[]⟩), q)
def mA (_ : ByteArray) (q : RS) := (intS q 2).bind fun p => mN p.1 p.2
def mT (t : ByteArray) (q : RS) : Option ((Int × Int × ByteArray) × RS) := some ((5, 0, t), q)
def mB (_ : ByteArray) (q : RS) := (textS q).bind fun p => mT p.1 p.2
def mZ (_ : Unit) (q : RS) : Option ((Int × Int × ByteArray) × RS) := some ((0, 0, ⟨#[]⟩), q)
def mF (q : RS) := (some ((), failS q true 222)).bind fun p => mZ p.1 p.2
def mD (k : Int) (q : RS) := if k = 3 then (bytesS q 3).bind fun p => mB p.1 p.2 else mF q
def mE (k : Int) (q : RS) : Option ((Int × Int × ByteArray) × RS) := if k = 2 then some ((7, 0, ⟨#[]⟩), q) else mD k q
def mG (k : Int) (q : RS) := if k = 0 then (bytesS q 1).bind fun p => mA p.1 p.2 else mE k q
theorem mA_good (b : ByteArray) : Good Any (mA b) := Good.bind (g := mN) (int_good 2 i2) (fun n _ => Good.pure (6, n, (⟨#[]⟩ : ByteArray)) trivial)
theorem mA_lock (b : ByteArray) : Lock Any (mA b) := Lock.bind (g := mN) (int_lock 2 i2) (fun n _ => Good.pure (6, n, (⟨#[]⟩ : ByteArray)) trivial) (fun n _ => Lock.pure (6, n, (⟨#[]⟩ : ByteArray)) trivial)
theorem mB_good (b : ByteArray) : Good Any (mB b) := Good.bind (g := mT) text_good (fun t _ => Good.pure (5, 0, t) trivial)
theorem mB_lock (b : ByteArray) : Lock Any (mB b) := Lock.bind (g := mT) text_lock (fun t _ => Good.pure (5, 0, t) trivial) (fun t _ => Lock.pure (5, 0, t) trivial)
theorem mF_good : Good Any mF := Good.bind (g := mZ) (fail_good true 222 (by decide)) (fun _ _ => Good.pure (0, 0, (⟨#[]⟩ : ByteArray)) trivial)
theorem mF_lock : Lock Any mF := Lock.bind (g := mZ) (fail_lock true 222 (by decide)) (fun _ _ => Good.pure (0, 0, (⟨#[]⟩ : ByteArray)) trivial) (fun _ _ => Lock.pure (0, 0, (⟨#[]⟩ : ByteArray)) trivial)
theorem mD_good (k : Int) : Good Any (mD k) := Good.ite (c := k = 3) (f := fun q => (bytesS q 3).bind fun p => mB p.1 p.2) (g := mF) (fun _ => Good.bind (g := mB) (bytes_good 3 (by decide)) (fun b _ => mB_good b)) (fun _ => mF_good)
theorem mD_lock (k : Int) : Lock Any (mD k) := Lock.ite (c := k = 3) (f := fun q => (bytesS q 3).bind fun p => mB p.1 p.2) (g := mF) (fun _ => Lock.bind (g := mB) (bytes_lock 3 (by decide)) (fun b _ => mB_good b) (fun b _ => mB_lock b)) (fun _ => mF_lock)
theorem mE_good (k : Int) : Good Any (mE k) := Good.ite (c := k = 2) (f := fun q => some ((7, 0, (⟨#[]⟩ : ByteArray)), q)) (g := mD k) (fun _ => Good.pure _ trivial) (fun _ => mD_good k)
theorem mE_lock (k : Int) : Lock Any (mE k) := Lock.ite (c := k = 2) (f := fun q => some ((7, 0, (⟨#[]⟩ : ByteArray)), q)) (g := mD k) (fun _ => Lock.pure _ trivial) (fun _ => mD_lock k)
theorem mG_good (k : Int) : Good Any (mG k) := Good.ite (c := k = 0) (f := fun q => (bytesS q 1).bind fun p => mA p.1 p.2) (g := mE k) (fun _ => Good.bind (g := mA) (bytes_good 1 (by decide)) (fun b _ => mA_good b)) (fun _ => mE_good k)
theorem mG_lock (k : Int) : Lock Any (mG k) := Lock.ite (c := k = 0) (f := fun q => (bytesS q 1).bind fun p => mA p.1 p.2) (g := mE k) (fun _ => Lock.bind (g := mA) (bytes_lock 1 (by decide)) (fun b _ => mA_good b) (fun b _ => mA_lock b)) (fun _ => mE_lock k)
theorem msg_lock : Lock Any msgS := Lock.bind (g := mG) (int_lock 1 (.inl rfl)) (fun k _ => mG_good k) (fun k _ => mG_lock k)
def kR (x : Int) (r : List Int) (q : RS) : Option (List Int × RS) := some (x :: r, q)
def kS (n : Nat) (x : Int) (q : RS) := (kindsL n q).bind fun p => kR x p.1 p.2
theorem kindsL_succ (n : Nat) : kindsL (n + 1) = fun q => (intS q 1).bind fun p => kS n p.1 p.2 := by
  funext q
  show (intS q 1).bind _ = (intS q 1).bind _
  congr 1
  funext p
  show (kindsL n p.2).map _ = (kindsL n p.2).bind _
  cases kindsL n p.2 <;> rfl
theorem kindsL_good : ∀ n : Nat, Good (Any : List Int → Prop) (kindsL n)
  | 0 => Good.pure _ trivial
  | n + 1 => by
    rw [kindsL_succ]
    exact Good.bind (g := kS n) (int_good 1 (.inl rfl)) (fun x _ => Good.bind (g := kR x) (kindsL_good n) (fun r _ => Good.pure (x :: r) trivial))
theorem kindsL_lock : ∀ n : Nat, Lock (Any : List Int → Prop) (kindsL n)
  | 0 => Lock.pure _ trivial
  | n + 1 => by
    rw [kindsL_succ]
    exact Lock.bind (g := kS n) (int_lock 1 (.inl rfl)) (fun x _ => Good.bind (g := kR x) (kindsL_good n) (fun r _ => Good.pure (x :: r) trivial)) (fun x _ => Lock.bind (g := kR x) (kindsL_lock n) (fun r _ => Good.pure (x :: r) trivial) (fun r _ => Lock.pure (x :: r) trivial))
end Go.Proofs.Ytpackckoblpbfaa.H
namespace Go.Proofs.Ytpackckoblpbfaa.H
set_option linter.unusedVariables false
open Go.RowKit Go.Proofs.Ytpackckoblpbfaa.X Go.Proofs.Ytpackckoblpbfaa.B Go.Proofs.Ytpackckoblpbfaa.O Go.Proofs.YtpackckoblpbfaaW.PrintWords Go.Proofs.YtpackckoblpbfaaW.PrintLast Go.Proofs.YtpackckoblpbfaaW.PrintMore
def kZ (t : ByteArray) (l : List Int) (q : RS) : Option ((List Int × ByteArray) × RS) := some ((l, t), q)
def kT (n : Int) (t : ByteArray) (q : RS) := (kindsL n.toNat q).bind fun p => kZ t p.1 p.2
def kC (n : Int) (q : RS) : Option (ByteArray × RS) := if q.ce = 0 ∧ n = 0 then textS q else some (⟨#[]⟩, q)
def kU (n : Int) (q : RS) := (kC n q).bind fun p => kT n p.1 p.2
def kV (n : Int) (q : RS) := if 0 ≤ n ∧ n ≤ 255 then kU n q else none
theorem kT_good (n : Int) (t : ByteArray) : Good Any (kT n t) := Good.bind (g := kZ t) (kindsL_good n.toNat) (fun l _ => Good.pure (l, t) trivial)
theorem kT_lock (n : Int) (t : ByteArray) : Lock Any (kT n t) := Lock.bind (g := kZ t) (kindsL_lock n.toNat) (fun l _ => Good.pure (l, t) trivial) (fun l _ => Lock.pure (l, t) trivial)
theorem kC_good (n : Int) : Good Any (kC n) := fun q h => by
  unfold kC
  by_cases hc : q.ce = 0 ∧ n = 0
  · rw [if_pos hc]; exact text_good q h
  · rw [if_neg hc]; exact Good.pure (P := Any) (⟨#[]⟩ : ByteArray) trivial q h
theorem kC_lock (n : Int) : Lock Any (kC n) := fun t q q' h h' hs => by
  have h1 := hs.2.2.1
  have h2 := hs.2.2.2.1
  unfold kC
  by_cases hc : n = 0
  · rw [if_pos ⟨h1, hc⟩, if_pos ⟨h2, hc⟩]; exact text_lock t q q' h h' hs
  · rw [if_neg (fun h => hc h.2), if_neg (fun h => hc h.2)]; exact Lock.pure (P := Any) (⟨#[]⟩ : ByteArray) trivial t q q' h h' hs
theorem kU_good (n : Int) : Good Any (kU n) := Good.bind (g := kT n) (kC_good n) (fun t _ => kT_good n t)
theorem kU_lock (n : Int) : Lock Any (kU n) := Lock.bind (g := kT n) (kC_lock n) (fun t _ => kT_good n t) (fun t _ => kT_lock n t)
theorem kV_eq {n : Int} (h : 0 ≤ n ∧ n ≤ 255) : kV n = kU n := by
  funext q
  exact if_pos h
theorem kinds_lock : Lock Any kindsS := Lock.bind (g := kV) (int_lock 1 (.inl rfl)) (fun n hn => by rw [kV_eq ⟨hn.1, hn.2 rfl⟩]; exact kU_good n) (fun n hn => by rw [kV_eq ⟨hn.1, hn.2 rfl⟩]; exact kU_lock n)
end Go.Proofs.Ytpackckoblpbfaa.H
namespace Go.Proofs.Ytpackckoblpbfaa.H
set_option linter.unusedVariables false
open Go.RowKit Go.Proofs.Ytpackckoblpbfaa.X Go.Proofs.Ytpackckoblpbfaa.B Go.Proofs.Ytpackckoblpbfaa.O Go.Proofs.Ytpackckoblpbfaa.F Go.Proofs.YtpackckoblpbfaaW.PrintWords Go.Proofs.YtpackckoblpbfaaW.PrintLast Go.Proofs.YtpackckoblpbfaaW.PrintMore
abbrev P11 := Int × Int × Bool × Bool × Int × Int × Int × Int × Int × Int × Int
def pE (p : P11) : Int := p.2.2.2.2.2.2.2.2.2.2
theorem parse_any (s : ByteArray) (hs : s.size ≤ 4611686018427387904) : ∃ p : P11, format_Parse.f s = some p ∧ (16 ≤ s.size → pE p = 0 ∨ pE p = 130) := by
  by_cases h : s.size < 16
  · exact ⟨_, parse_short s h, fun h2 => by omega⟩
  · obtain ⟨b, hb, _⟩ := valid_p ((bytesOf s).getD 0 0) ((bytesOf s).getD 1 0) ((bytesOf s).getD 2 0 != 0) ((bytesOf s).getD 3 0 != 0) ((bytesOf s).getD 4 0 * 256 + (bytesOf s).getD 5 0) ((bytesOf s).getD 6 0 * 256 + (bytesOf s).getD 7 0) ((bytesOf s).getD 8 0 * 256 + (bytesOf s).getD 9 0) ((bytesOf s).getD 10 0) ((bytesOf s).getD 11 0) ((bytesOf s).getD 12 0)
    refine ⟨_, parse_long s hs (by omega) _ rfl b hb, fun _ => ?_⟩
    split
    · exact .inl rfl
    · exact .inr rfl
theorem fail_goes (q : RS) (is : Bool) (e : Int) (he : e ≠ 2) (h : Ok q) : Goes q (failS q is e) := by
  obtain ⟨v, p, e1, _, g⟩ := fail_good is e he q h
  obtain ⟨_, rfl⟩ := Prod.mk.inj (Option.some.inj e1)
  exact g
theorem failS_off (q : RS) (is : Bool) (e : Int) (h : q.ce ≠ 0) : failS q is e = q := if_neg (fun hc => h hc.2.1)
def sA (u0 u1 : Int) (q : RS) : Option (P11 × RS) := (bytesS q 16).bind fun c => (format_Parse.f c.1).bind fun p => some (p, failS (failS c.2 (u0 == 0 || u1 == 0) 3) (pE p != 0) (pE p))
theorem rd16 (q : RS) (h : Ok q) (hc : (afterR q (rdB q.s q.at_ q.ce 16)).ce = 0) : 16 ≤ (rdB q.s q.at_ q.ce 16).1.size := by
  obtain ⟨s, p, e, r⟩ := q
  obtain ⟨k1, k2, k3, k4, k5⟩ := h
  have k2 : 0 ≤ p := k2
  have k3 : p ≤ (s.size : Int) := k3
  by_cases he : e = 0
  · subst he
    by_cases hl : (16 : Int) > (s.size : Int) - p
    · have hc : (rdB s p 0 16).2.2 = 0 := hc
      rw [rdB_m (by decide) hl] at hc
      exact absurd hc (show ¬ ((2 : Int) = 0) by decide)
    · show 16 ≤ (rdB s p 0 16).1.size
      rw [rdB_i (by decide) hl]
      show 16 ≤ (s.extract p.toNat (p + 16).toNat).size
      rw [ByteArray.size_extract]
      omega
  · have hc : (rdB s p e 16).2.2 = 0 := hc
    rw [rdB_e he] at hc
    exact absurd hc he
theorem sA_step (u0 u1 : Int) (q : RS) (h : Ok q) : ∃ p, sA u0 u1 q = some (p, failS (failS (afterR q (rdB q.s q.at_ q.ce 16)) (u0 == 0 || u1 == 0) 3) (pE p != 0) (pE p)) ∧ format_Parse.f (rdB q.s q.at_ q.ce 16).1 = some p ∧ ((afterR q (rdB q.s q.at_ q.ce 16)).ce = 0 → pE p ≠ 2) := by
  have hz := (rdB_ok q.s q.at_ q.ce 16 h.2.1 h.2.2.1).2.2
  obtain ⟨p, e1, e2⟩ := parse_any (rdB q.s q.at_ q.ce 16).1 (by have := h.1; omega)
  refine ⟨p, ?_, e1, fun hc => ?_⟩
  · unfold sA
    refine bind_eq (bytesS_eq q 16 h) ?_
    exact bind_eq e1 rfl
  · rcases e2 (rd16 q h hc) with e | e <;> rw [e] <;> decide
theorem fails_goes (A : RS) (b : Bool) (e : Int) (h : Ok A) (he : A.ce = 0 → e ≠ 2) : Goes A (failS (failS A b 3) (e != 0) e) := by
  by_cases hc : A.ce = 0
  · have g := fail_goes A b 3 (by decide) h
    exact g.trans (fail_goes _ _ e (he hc) g.ok)
  · rw [failS_off A b 3 hc, failS_off A _ e hc]
    exact Goes.refl h
theorem sA_good (u0 u1 : Int) : Good Any (sA u0 u1) := fun q h => by
  obtain ⟨p, e1, _, e3⟩ := sA_step u0 u1 q h
  have g := rd_goes q 16 (by decide) h
  exact ⟨p, _, e1, trivial, g.trans (fails_goes _ _ _ g.ok e3)⟩
theorem sA_lock (u0 u1 : Int) : Lock Any (sA u0 u1) := fun t q q' h h' hs => by
  obtain ⟨p, e1, e2, e3⟩ := sA_step u0 u1 q h
  obtain ⟨p', f1, f2, f3⟩ := sA_step u0 u1 q' h'
  have g := rd_goes q 16 (by decide) h
  have g' := rd_goes q' 16 (by decide) h'
  have k := fails_goes _ (u0 == 0 || u1 == 0) _ g.ok e3
  have k' := fails_goes _ (u0 == 0 || u1 == 0) _ g'.ok f3
  refine ⟨p, p', _, _, e1, f1, trivial, trivial, k.ok, k'.ok, k.s.trans g.s, ?_⟩
  rcases rd_lock t q q' 16 (by decide) h h' hs with ⟨hs2, hc⟩ | hoff
  · rw [← hc, e2] at f2
    obtain rfl := Option.some.inj f2
    obtain ⟨_, _, a, a', x1, x2, _, _, o1, o2, _, y⟩ := fail_lock (u0 == 0 || u1 == 0) 3 (by decide) t _ _ g.ok g'.ok hs2
    obtain ⟨_, rfl⟩ := Prod.mk.inj (Option.some.inj x1)
    obtain ⟨_, rfl⟩ := Prod.mk.inj (Option.some.inj x2)
    rcases y with ⟨y, _⟩ | y
    · obtain ⟨_, _, a, a', x1, x2, _, _, o1, o2, _, z⟩ := fail_lock (pE p != 0) (pE p) (e3 hs2.2.2.1) t _ _ o1 o2 y
      obtain ⟨_, rfl⟩ := Prod.mk.inj (Option.some.inj x1)
      obtain ⟨_, rfl⟩ := Prod.mk.inj (Option.some.inj x2)
      exact z.imp (fun ⟨a, _⟩ => ⟨a, rfl⟩) id
    · exact .inr (y.goes (fail_goes _ _ _ (e3 hs2.2.2.1) o1) (fail_goes _ _ _ (e3 hs2.2.2.1) o2))
  · exact .inr (hoff.goes k k')
end Go.Proofs.Ytpackckoblpbfaa.H
namespace Go.Proofs.Ytpackckoblpbfaa.H
set_option linter.unusedVariables false
open Go.RowKit Go.Proofs.Ytpackckoblpbfaa.X Go.Proofs.Ytpackckoblpbfaa.B Go.Proofs.Ytpackckoblpbfaa.O Go.Proofs.Ytpackckoblpbfaa.F Go.Proofs.YtpackckoblpbfaaW.PrintWords Go.Proofs.YtpackckoblpbfaaW.PrintLast Go.Proofs.YtpackckoblpbfaaW.PrintMore
abbrev V13 := Int × Int × Int × Int × Bool × Bool × Int × Int × Int × Int × Int × Int × ByteArray
def sT (u0 u1 : Int) (p : P11) (t : ByteArray) (q : RS) : Option (V13 × RS) := some ((u0, u1, p.1, p.2.1, p.2.2.1, p.2.2.2.1, p.2.2.2.2.1, p.2.2.2.2.2.1, p.2.2.2.2.2.2.1, p.2.2.2.2.2.2.2.1, p.2.2.2.2.2.2.2.2.1, p.2.2.2.2.2.2.2.2.2.1, t), q)
def sZ (u0 u1 : Int) (q : RS) : Option (V13 × RS) := some ((u0, u1, 0, 0, false, false, 0, 0, 0, 0, 0, 0, ⟨#[]⟩), q)
def sU (u0 u1 : Int) (p : P11) (q : RS) := (textS q).bind fun t => sT u0 u1 p t.1 t.2
def sB (u0 u1 : Int) (p : P11) (q : RS) := if q.re = 0 then sU u0 u1 p q else sZ u0 u1 q
def sC (u0 u1 : Int) (q : RS) := (sA u0 u1 q).bind fun p => sB u0 u1 p.1 p.2
def sD (u0 : Int) (q : RS) := (intS q 2).bind fun p => sC u0 p.1 p.2
theorem sZ_good (u0 u1 : Int) : Good Any (sZ u0 u1) := Good.pure _ trivial
theorem sU_good (u0 u1 : Int) (p : P11) : Good Any (sU u0 u1 p) := Good.bind (g := sT u0 u1 p) text_good (fun t _ => Good.pure _ trivial)
theorem sU_lock (u0 u1 : Int) (p : P11) : Lock Any (sU u0 u1 p) := Lock.bind (g := sT u0 u1 p) text_lock (fun t _ => Good.pure _ trivial) (fun t _ => Lock.pure _ trivial)
theorem sB_good (u0 u1 : Int) (p : P11) : Good Any (sB u0 u1 p) := Good.onRe (f := sU u0 u1 p) (g := sZ u0 u1) (sU_good u0 u1 p) (sZ_good u0 u1)
theorem sB_lock (u0 u1 : Int) (p : P11) : Lock Any (sB u0 u1 p) := Lock.onRe (f := sU u0 u1 p) (g := sZ u0 u1) (sU_lock u0 u1 p)
theorem sC_good (u0 u1 : Int) : Good Any (sC u0 u1) := Good.bind (g := sB u0 u1) (sA_good u0 u1) (fun p _ => sB_good u0 u1 p)
theorem sC_lock (u0 u1 : Int) : Lock Any (sC u0 u1) := Lock.bind (g := sB u0 u1) (sA_lock u0 u1) (fun p _ => sB_good u0 u1 p) (fun p _ => sB_lock u0 u1 p)
theorem sD_good (u0 : Int) : Good Any (sD u0) := Good.bind (g := sC u0) (int_good 2 i2) (fun u1 _ => sC_good u0 u1)
theorem sD_lock (u0 : Int) : Lock Any (sD u0) := Lock.bind (g := sC u0) (int_lock 2 i2) (fun u1 _ => sC_good u0 u1) (fun u1 _ => sC_lock u0 u1)
theorem start_eq : startS = fun q => (intS q 2).bind fun p => sD p.1 p.2 := by
  funext q
  unfold startS
  congr 1
  funext a
  unfold sD
  congr 1
  funext b
  unfold sC sA
  rw [Option.bind_assoc]
  congr 1
  funext c
  rw [Option.bind_assoc]
  rfl
theorem start_lock : Lock Any startS := by
  rw [start_eq]
  exact Lock.bind (g := sD) (int_lock 2 i2) (fun u _ => sD_good u) (fun u _ => sD_lock u)
end Go.Proofs.Ytpackckoblpbfaa.H
namespace Go.Proofs.Ytpackckoblpbfaa.H
set_option linter.unusedVariables false
set_option linter.unusedSimpArgs false
open Go.RowKit Go.Proofs.Ytpackckoblpbfaa.X Go.Proofs.Ytpackckoblpbfaa.B Go.Proofs.Ytpackckoblpbfaa.O Go.Proofs.YtpackckoblpbfaaW.PrintWords Go.Proofs.YtpackckoblpbfaaW.PrintLast Go.Proofs.YtpackckoblpbfaaW.PrintMore
/-- A reader behind the bytes 'pre', ahead of 'rest'. -/
structure At (pre rest : List Int) (q : RS) : Prop where
  z : q.s.size ≤ 4611686018427387904
  b : bytesOf q.s = pre ++ rest
  a : q.at_ = (pre.length : Int)
  c : q.ce = 0
  r : q.re = 0
theorem At.ok {pre rest : List Int} {q : RS} (h : At pre rest q) : Ok q := by
  obtain ⟨z, b, a, c, r⟩ := h
  have hl := bytesOf_length q.s
  rw [b, List.length_append] at hl
  exact ⟨z, by omega, by omega, .inl c, by rw [r]; decide⟩
/-- The bytes bs are read as v. -/
def Reads {α : Type} (f : RS → Option (α × RS)) (v : α) (bs : List Int) : Prop := ∀ pre rest q, At pre (bs ++ rest) q → ∃ p, f q = some (v, p) ∧ At (pre ++ bs) rest p ∧ p.s = q.s
theorem Reads.pure {α : Type} (v : α) : Reads (fun q => some (v, q)) v [] := fun pre rest q h => ⟨q, rfl, by rw [List.append_nil]; exact h, rfl⟩
theorem Reads.bind {α β : Type} {f : RS → Option (α × RS)} {g : α → RS → Option (β × RS)} {v : α} {u : β} {bs cs : List Int} (hf : Reads f v bs) (hg : Reads (g v) u cs) : Reads (fun q => (f q).bind fun p => g p.1 p.2) u (bs ++ cs) := fun pre rest q h => by
  obtain ⟨p, e1, h1, s1⟩ := hf pre (cs ++ rest) q (by rw [← List.append_assoc]; exact h)
  obtain ⟨r, e2, h2, s2⟩ := hg (pre ++ bs) rest p h1
  exact ⟨r, by show (f q).bind _ = _; rw [e1]; exact e2, by rw [← List.append_assoc]; exact h2, s2.trans s1⟩
theorem Reads.to {α : Type} {f : RS → Option (α × RS)} {v : α} {bs cs : List Int} (h : Reads f v bs) (e : bs = cs) : Reads f v cs := e ▸ h
theorem rd_at {pre bs rest : List Int} {q : RS} {n : Int} (hn : (bs.length : Int) = n) (h : At pre (bs ++ rest) q) : rdB q.s q.at_ q.ce n = (strOfNums bs, ((pre ++ bs).length : Int), 0) := by
  subst hn
  obtain ⟨z, b, a, c, r⟩ := h
  have hl := bytesOf_length q.s
  rw [b, List.length_append, List.length_append] at hl
  rw [c, rdB_i (by omega) (by omega), a, Int.toNat_natCast, show ((pre.length : Int) + (bs.length : Int)).toNat = pre.length + bs.length by omega]
  have hr := bytes_range q.s
  rw [b] at hr
  have hb : ∀ x ∈ bs, 0 ≤ x ∧ x < 256 := fun x hx => hr x (by simp [hx])
  have e : q.s.extract pre.length (pre.length + bs.length) = strOfNums bs := by
    apply ba_bytesOf.1
    rw [bytes_extract, b, bytes_str hb, List.take_append, List.take_of_length_le (by omega), List.drop_append, List.drop_of_length_le (Nat.le_refl _)]
    simp
  rw [e, List.length_append]
  push_cast; rfl
theorem at_after {pre bs rest : List Int} {q : RS} {n : Int} (hn : (bs.length : Int) = n) (h : At pre (bs ++ rest) q) : At (pre ++ bs) rest (afterR q (rdB q.s q.at_ q.ce n)) := by
  rw [rd_at hn h]
  obtain ⟨z, b, a, c, r⟩ := h
  exact ⟨z, by show bytesOf q.s = _; rw [b, List.append_assoc], rfl, rfl, r⟩
theorem At.range {pre bs rest : List Int} {q : RS} (h : At pre (bs ++ rest) q) : ∀ x ∈ bs, 0 ≤ x ∧ x < 256 := fun x hx => bytes_range q.s x (by rw [h.b]; simp [hx])
theorem read_int {n v : Int} (hf : fits n v) : Reads (fun q => intS q n) v (beL n v) := fun pre rest q h => by
  have hn : n = 1 ∨ n = 2 ∨ n = 4 := by rcases hf with ⟨h, _⟩ | ⟨h, _⟩ | ⟨h, _⟩ <;> simp [h]
  have hl := beL_length hf
  refine ⟨_, ?_, at_after hl h, rfl⟩
  show intS q n = _
  rw [intS_eq q n hn h.ok, rd_at hl h, bytes_str (h.range), beN_beL hf]
theorem read_bytes {bs : List Int} {n : Int} (hn : (bs.length : Int) = n) : Reads (fun q => bytesS q n) (strOfNums bs) bs := fun pre rest q h => by
  refine ⟨_, ?_, at_after hn h, rfl⟩
  show bytesS q n = _
  rw [bytesS_eq q _ h.ok, rd_at hn h]
theorem failS_false (q : RS) (e : Int) : failS q false e = q := if_neg (fun h => by cases h.1)
theorem read_signed {v : Int} (h0 : -2147483648 ≤ v) (h1 : v ≤ 2147483647) : Reads (fun q => signedS q) v (beL 4 (v % 4294967296)) := fun pre rest q h => by
  have hf : fits 4 (v % 4294967296) := .inr (.inr ⟨rfl, by omega⟩)
  have hl : (((beL 4 (v % 4294967296)).length : Nat) : Int) = 4 := beL_length hf
  refine ⟨_, ?_, at_after hl h, rfl⟩
  show signedS q = _
  rw [signedS_eq q h.ok, rd_at hl h, bytes_str (h.range), beN_beL hf]
  congr 2
  unfold wrap64 wrap32
  omega
theorem read_text {t : ByteArray} (ht : t.size ≤ 4096) : Reads textS t (beL 4 (t.size : Int) ++ bytesOf t) := by
  rw [text_eq]
  refine Reads.bind (v := (t.size : Int)) (g := fun n q => (some ((), failS q (decide (4096 < n)) 4)).bind fun r => (fun q => if q.re = 0 then bytesS q n else some (⟨#[]⟩, q)) r.2) (read_int (.inr (.inr ⟨rfl, by omega⟩))) ?_
  intro pre rest q h
  have hd : decide (4096 < (t.size : Int)) = false := decide_eq_false (by omega)
  obtain ⟨p, e1, h1, s1⟩ := read_bytes (bs := bytesOf t) (n := (t.size : Int)) (by rw [bytesOf_length]) pre rest q h
  refine ⟨p, ?_, h1, s1⟩
  show (if (failS q (decide (4096 < (t.size : Int))) 4).re = 0 then bytesS (failS q (decide (4096 < (t.size : Int))) 4) (t.size : Int) else _) = _
  rw [hd, failS_false, if_pos h.r]
  rw [str_bytes] at e1
  exact e1
/-- A whole text that begins so. -/
theorem Reads.run {α : Type} {f : RS → Option (α × RS)} {v : α} {bs : List Int} (h : Reads f v bs) (hr : ∀ x ∈ bs, 0 ≤ x ∧ x < 256) (t : ByteArray) (hz : bs.length + t.size ≤ 4611686018427387904) : ∃ p : RS, f ⟨strOfNums bs ++ t, 0, 0, 0⟩ = some (v, p) ∧ p.re = 0 ∧ p.ce = 0 ∧ p.at_ = (bs.length : Int) := by
  obtain ⟨p, e, h1, _⟩ := h [] (bytesOf t) ⟨strOfNums bs ++ t, 0, 0, 0⟩ ⟨by show (strOfNums bs ++ t).size ≤ _; rw [ba_size_append, strOfNums_size]; exact hz, by show bytesOf (strOfNums bs ++ t) = _; rw [bytes_append, bytes_str hr]; rfl, rfl, rfl, rfl⟩
  exact ⟨p, e, h1.r, h1.c, h1.a⟩
end Go.Proofs.Ytpackckoblpbfaa.H
namespace Go.Proofs.Ytpackckoblpbfaa.H
set_option linter.unusedVariables false
set_option linter.unusedSimpArgs false
open Go.RowKit Go.Proofs.Ytpackckoblpbfaa.X Go.Proofs.Ytpackckoblpbfaa.B Go.Proofs.Ytpackckoblpbfaa.O Go.Proofs.YtpackckoblpbfaaW.PrintWords Go.Proofs.YtpackckoblpbfaaW.PrintLast Go.Proofs.YtpackckoblpbfaaW.PrintMore
abbrev WS := List UInt8 × Int
/-- Bytes as a list. -/
def wL (bs : List Int) : List UInt8 := (strOfNums bs).data.toList
theorem wL_append (a b : List Int) : wL (a ++ b) = wL a ++ wL b := by unfold wL; rw [← str_append, ba_append]
theorem wL_nil : wL [] = [] := rfl
theorem wL_bytes (s : ByteArray) : wL (bytesOf s) = s.data.toList := by unfold wL; rw [str_bytes]
theorem wL_length (bs : List Int) : (wL bs).length = bs.length := by unfold wL; rw [← ba_size, strOfNums_size]
theorem wL_arr (bs : List Int) : (⟨(wL bs).toArray⟩ : ByteArray) = strOfNums bs := ba_ext (by unfold wL; simp)
theorem errW1_true (e err : Int) : errW1 true e err = err := if_neg (fun h => by cases h.1)
theorem errW1_false (e err : Int) : errW1 false e err = if err = 0 then e else err := by
  unfold errW1
  by_cases h : err = 0
  · rw [if_pos ⟨rfl, h⟩, if_pos h]
  · rw [if_neg (fun k => h k.2), if_neg h]
/-- A check's own error, or none. -/
theorem errW1_zero {ok : Bool} {e err : Int} (he : e ≠ 0) (h : errW1 ok e err = 0) : ok = true ∧ err = 0 := by
  cases ok with
  | true => exact ⟨rfl, by rw [errW1_true] at h; exact h⟩
  | false =>
    rw [errW1_false] at h
    by_cases k : err = 0
    · rw [if_pos k] at h; exact absurd h he
    · rw [if_neg k] at h; exact absurd h k
/-- A number is written, or an error is noted. -/
def pW (z : Int) (st : WS) (n : Int) : WS := if fits z n then (st.1 ++ wL (beL z n), st.2) else (st.1, errW1 false 1 st.2)
theorem wI_f (st : WS) (z n : Int) (h : st.1.length ≤ 140737488351000) : wI st z n = some (pW z st n) := by
  unfold wI pW
  refine bind_eq (Put_f (by decide) z n) ?_
  by_cases hf : fits z n
  · have := beL_length hf
    have hz : (strOfNums (beL z n)).size ≤ 4 := by
      rw [strOfNums_size]
      unfold fits at hf
      omega
    rw [if_pos hf, if_pos hf, if_pos (by show st.1.length + (strOfNums (beL z n)).size ≤ _; omega)]
    show some (st.1 ++ (strOfNums (beL z n)).data.toList, errW1 true 1 st.2) = _
    rw [errW1_true]; rfl
  · rw [if_neg hf, if_neg hf, if_pos (by show st.1.length + 0 ≤ _; omega)]
    show some (st.1 ++ [], errW1 false 1 st.2) = _
    rw [List.append_nil]
theorem pW_len (z : Int) (st : WS) (n : Int) : (pW z st n).1.length ≤ st.1.length + 4 := by
  unfold pW
  by_cases hf : fits z n
  · have := beL_length hf
    rw [if_pos hf, List.length_append, wL_length]
    unfold fits at hf
    omega
  · rw [if_neg hf]; show st.1.length ≤ _; omega
theorem pW_ok {z : Int} {st : WS} {n : Int} (h : (pW z st n).2 = 0) : st.2 = 0 ∧ fits z n ∧ (pW z st n).1 = st.1 ++ wL (beL z n) := by
  unfold pW at h ⊢
  by_cases hf : fits z n
  · rw [if_pos hf] at h ⊢
    exact ⟨h, hf, rfl⟩
  · rw [if_neg hf] at h
    exact absurd (errW1_zero (by decide) h).1 (by decide)
def pWs (z : Int) (l : List Int) (st : WS) : WS := l.foldl (pW z) st
theorem wInts_f (z : Int) : ∀ (l : List Int) (st : WS), st.1.length + 4 * l.length ≤ 140737488351000 → wInts z l st = some (pWs z l st)
  | [], st, h => rfl
  | n :: l, st, h => by
    rw [List.length_cons] at h
    show (wI st z n).bind _ = _
    rw [wI_f st z n (by omega)]
    have := pW_len z st n
    exact wInts_f z l _ (by omega)
theorem pWs_len (z : Int) : ∀ (l : List Int) (st : WS), (pWs z l st).1.length ≤ st.1.length + 4 * l.length
  | [], st => by show st.1.length ≤ _; omega
  | n :: l, st => by
    have h1 := pW_len z st n
    have h2 := pWs_len z l (pW z st n)
    rw [List.length_cons]
    show (pWs z l (pW z st n)).1.length ≤ _
    omega
theorem pWs_ok {z : Int} : ∀ {l : List Int} {st : WS}, (pWs z l st).2 = 0 → st.2 = 0 ∧ (∀ n ∈ l, fits z n) ∧ (pWs z l st).1 = st.1 ++ wL (l.flatMap (beL z))
  | [], st, h => ⟨h, (fun n hn => by cases hn), by show st.1 = _; simp [wL_nil]⟩
  | n :: l, st, h => by
    obtain ⟨h1, h2, h3⟩ := pWs_ok (l := l) (st := pW z st n) h
    obtain ⟨k1, k2, k3⟩ := pW_ok h1
    refine ⟨k1, fun m hm => ?_, ?_⟩
    · rcases List.mem_cons.1 hm with rfl | hm
      · exact k2
      · exact h2 m hm
    · show (pWs z l (pW z st n)).1 = _
      rw [h3, k3, List.flatMap_cons, wL_append, List.append_assoc]
theorem pW_fits {z n : Int} {st : WS} (h : fits z n) : pW z st n = (st.1 ++ wL (beL z n), st.2) := if_pos h
theorem pWs_one (z : Int) (n : Int) (st : WS) : pWs z [n] st = pW z st n := rfl
def pA (q : WS) (s : ByteArray) : WS := (q.1 ++ s.data.toList, q.2)
theorem pA_1 (q : WS) (s : ByteArray) : (pA q s).1 = q.1 ++ s.data.toList := rfl
theorem pA_2 (q : WS) (s : ByteArray) : (pA q s).2 = q.2 := rfl
/-- A text, with its length. -/
def pT (st : WS) (s : ByteArray) : WS := pA (pW 4 (st.1, errW1 (decide ((s.size : Int) ≤ 4096)) 1 st.2) (s.size : Int)) s
theorem wText_q (q : WS) (s : ByteArray) (z : Int) (h : q.1.length + s.size ≤ 140737488350000) : ((wInts z [(s.size : Int)] q).bind fun st1 => if st1.1.length + s.size ≤ 140737488351232 then some (st1.1 ++ s.data.toList, st1.2) else none) = some (pA (pW z q (s.size : Int)) s) := by
  generalize hm : ((s.size : Nat) : Int) = m
  have h1 := pW_len z q m
  refine bind_eq (wInts_f z [m] q (by rw [List.length_singleton]; omega)) ?_
  rw [pWs_one, if_pos (by omega)]
  rfl
theorem wText_f (st : WS) (s : ByteArray) (h : st.1.length + s.size ≤ 140737488350000) : wText st s = some (pT st s) := by
  unfold wText pT
  have h2 := wText_q (st.1, errW1 (decide ((s.size : Int) ≤ 4096)) 1 st.2) s 4 h
  with_reducible exact h2
theorem pT_q {z : Int} {x : List UInt8} {e : Int} {s : ByteArray} (h : (pA (pW z (x, e) (s.size : Int)) s).2 = 0) : e = 0 ∧ (pA (pW z (x, e) (s.size : Int)) s).1 = x ++ wL (beL z (s.size : Int) ++ bytesOf s) := by
  rw [pA_2] at h
  obtain ⟨h1, h2, h3⟩ := pW_ok h
  refine ⟨h1, ?_⟩
  rw [pA_1, h3, wL_append, wL_bytes, List.append_assoc]
theorem pT_ok {st : WS} {s : ByteArray} (h : (pT st s).2 = 0) : st.2 = 0 ∧ s.size ≤ 4096 ∧ (pT st s).1 = st.1 ++ wL (beL 4 (s.size : Int) ++ bytesOf s) := by
  unfold pT at h ⊢
  obtain ⟨h1, h3⟩ := pT_q h
  obtain ⟨k1, k2⟩ := errW1_zero (e := 1) (by decide) h1
  exact ⟨k2, by have := of_decide_eq_true k1; omega, h3⟩
theorem doneS_ok {st : WS} (h : (doneS st).2 = 0) : st.2 = 0 ∧ (doneS st).1 = ⟨st.1.toArray⟩ := by
  unfold doneS at h ⊢
  by_cases k : st.2 = 0
  · rw [if_neg (fun h => h k)]; exact ⟨k, rfl⟩
  · rw [if_pos k] at h; exact absurd h k
theorem flat_range {z : Int} {l : List Int} (h : ∀ n ∈ l, fits z n) : ∀ x ∈ l.flatMap (beL z), 0 ≤ x ∧ x < 256 := fun x hx => by
  obtain ⟨n, hn, hx⟩ := List.mem_flatMap.1 hx
  exact beL_range (h n hn) x hx
theorem text_range (s : ByteArray) (h : s.size ≤ 4096) : ∀ x ∈ beL 4 (s.size : Int) ++ bytesOf s, 0 ≤ x ∧ x < 256 := fun x hx => by
  rcases List.mem_append.1 hx with hx | hx
  · exact beL_range (.inr (.inr ⟨rfl, by omega⟩)) x hx
  · exact bytes_range s x hx
theorem beL4_len (n : Int) : (beL 4 n).length = 4 := rfl
theorem sgL_size (n : Int) : (sgL n).size ≤ 4 := by
  unfold sgL
  split
  · rw [strOfNums_size, beL4_len]; omega
  · exact Nat.zero_le _
end Go.Proofs.Ytpackckoblpbfaa.H
namespace Go.Proofs.Ytpackckoblpbfaa.H
set_option linter.unusedVariables false
set_option linter.unusedSimpArgs false
open Go.RowKit Go.Proofs.Ytpackckoblpbfaa.X Go.Proofs.Ytpackckoblpbfaa.B Go.Proofs.Ytpackckoblpbfaa.O Go.Proofs.Ytpackckoblpbfaa.F Go.Proofs.YtpackckoblpbfaaW.PrintWords Go.Proofs.YtpackckoblpbfaaW.PrintLast Go.Proofs.YtpackckoblpbfaaW.PrintMore
theorem Reads.fin {α β : Type} {f : RS → Option (α × RS)} {v : α} {bs : List Int} (h : Reads f v bs) (hr : ∀ x ∈ bs, 0 ≤ x ∧ x < 256) (t : ByteArray) (hz : bs.length + t.size ≤ 4611686018427387904) (A : α → RS → β) (B : RS → β) {r : β} (hA : ∀ p : RS, p.at_ = (bs.length : Int) → A v p = r) : ((f ⟨strOfNums bs ++ t, 0, 0, 0⟩).bind fun p => if p.2.re = 0 ∧ p.2.ce = 0 then some (A p.1 p.2) else some (B p.2)) = some r := by
  obtain ⟨p, e, h1, h2, h3⟩ := h.run hr t hz
  refine bind_eq e ?_
  rw [if_pos ⟨h1, h2⟩, hA p h3]
theorem done_bytes {st : WS} {bs : List Int} (h : (doneS st).2 = 0) (k : st.2 = 0 → st.1 = wL bs) : (doneS st).1 = strOfNums bs := by
  obtain ⟨h1, h2⟩ := doneS_ok h
  rw [h2, k h1, wL_arr]
/-! Kinds. -/
theorem kindsL_read : ∀ (l : List Int), (∀ x ∈ l, fits 1 x) → Reads (kindsL l.length) l (l.flatMap (beL 1))
  | [], _ => Reads.pure []
  | x :: l, h => by
    show Reads (kindsL (l.length + 1)) _ _
    rw [kindsL_succ]
    refine (Reads.bind (g := kS l.length) (read_int (h x (List.mem_cons_self ..))) (Reads.bind (g := kR x) (kindsL_read l (fun y hy => h y (List.mem_cons_of_mem _ hy))) (Reads.pure (x :: l)))).to ?_
    rw [List.flatMap_cons, List.append_nil]
theorem kinds_read (l : List Int) (h0 : 0 < l.length) (h1 : fits 1 (l.length : Int)) (h : ∀ x ∈ l, fits 1 x) : Reads kindsS (l, ⟨#[]⟩) (beL 1 (l.length : Int) ++ l.flatMap (beL 1)) := by
  refine Reads.bind (g := kV) (read_int h1) ?_
  rw [kV_eq (by unfold fits at h1; omega)]
  refine (Reads.bind (g := kT (l.length : Int)) (bs := []) (v := (⟨#[]⟩ : ByteArray)) (fun pre rest q hq => ⟨q, if_neg (fun h => by omega), by rw [List.append_nil]; exact hq, rfl⟩) ?_)
  refine (Reads.bind (g := kZ (⟨#[]⟩ : ByteArray)) (v := l) ?_ (Reads.pure (l, (⟨#[]⟩ : ByteArray)))).to (List.append_nil _)
  rw [Int.toNat_natCast]
  exact kindsL_read l h
theorem flat_len1 {l : List Int} : (l.flatMap (beL 1)).length = l.length := by
  induction l with
  | nil => rfl
  | cons x l ih => rw [List.flatMap_cons, List.length_append, ih, List.length_cons]; simp [beL]; omega
theorem kinds_back (l : List Int) (t : ByteArray) (hl : l.length ≤ 300) (ht : t.size ≤ 5000) : ∃ p, servermsg_Kinds.f l = some p ∧ p.1.size ≤ 100000 ∧ (p.2 = 0 → servermsg_KindsOf.f (p.1 ++ t) = some (l, ⟨#[]⟩, (p.1.size : Int), 0)) := by
  unfold servermsg_Kinds.f
  rw [if_pos (by omega)]
  generalize he : errW1 (decide (0 < l.length)) 1 0 = e
  have z1 := pWs_len 1 [(l.length : Int)] ([], e)
  rw [List.length_singleton, List.length_nil] at z1
  refine ⟨_, bind_eq (wInts_f 1 [(l.length : Int)] ([], e) (by rw [List.length_singleton, List.length_nil]; omega)) (bind_eq (wInts_f 1 l _ (by omega)) rfl), ?_, fun h0 => ?_⟩
  · have z2 := pWs_len 1 l (pWs 1 [(l.length : Int)] ([], e))
    unfold doneS
    split
    · exact Nat.zero_le _
    · show (List.toArray _).size ≤ _
      rw [List.size_toArray]; omega
  · have hb : (pWs 1 l (pWs 1 [(l.length : Int)] ([], e))).2 = 0 := (doneS_ok h0).1
    obtain ⟨a1, a2, a3⟩ := pWs_ok hb
    obtain ⟨b1, b2, b3⟩ := pWs_ok a1
    rw [b3, List.nil_append, ← wL_append, List.flatMap_cons, List.flatMap_nil, List.append_nil] at a3
    have b1 : e = 0 := b1
    rw [b1] at he
    obtain ⟨c1, _⟩ := errW1_zero (e := 1) (by decide) he
    have c2 := of_decide_eq_true c1
    have f1 := b2 _ (List.mem_singleton.2 rfl)
    rw [done_bytes h0 (fun _ => a3)]
    have hlen : (beL 1 (l.length : Int) ++ l.flatMap (beL 1)).length = l.length + 1 := by rw [List.length_append, flat_len1]; simp [beL]; omega
    unfold servermsg_KindsOf.f
    refine (kinds_read l c2 f1 a2).fin (fun x hx => ?_) t (by omega) (fun v p => (v.1, v.2, p.at_, (0 : Int))) (fun p => ([], ⟨#[]⟩, 0, if p.re = 0 then p.ce else p.re)) (fun p hp => by show (l, (⟨#[]⟩ : ByteArray), p.at_, (0 : Int)) = _; rw [hp, strOfNums_size])
    rcases List.mem_append.1 hx with hx | hx
    · exact beL_range f1 x hx
    · exact flat_range a2 x hx
/-! A result. -/
theorem result_read (t : ByteArray) (h0 : t.size ≠ 0) (h : t.size ≤ 4096) : Reads resultS t (beL 4 1 ++ (beL 4 (t.size : Int) ++ bytesOf t)) := by
  refine Reads.bind (g := rB) (v := (1 : Int)) (read_int (.inr (.inr ⟨rfl, by decide⟩))) ?_
  have e : rB 1 = fun q => (textS q).bind fun p => rA p.1 p.2 := by funext q; exact if_neg (by decide)
  rw [e]
  refine (Reads.bind (g := rA) (read_text h) (v := t) (u := t) (cs := []) ?_).to (List.append_nil _)
  have e : rA t = fun q => some (t, q) := by funext q; exact if_neg h0
  rw [e]
  exact Reads.pure t
theorem result_read0 : Reads resultS ⟨#[]⟩ (beL 4 0) := by
  refine (Reads.bind (g := rB) (v := (0 : Int)) (read_int (.inr (.inr ⟨rfl, by decide⟩))) (u := (⟨#[]⟩ : ByteArray)) (cs := []) ?_).to (List.append_nil _)
  have e : rB 0 = fun q => some ((⟨#[]⟩ : ByteArray), q) := by funext q; exact if_pos rfl
  rw [e]
  exact Reads.pure _
theorem fits4 {n : Int} (h : 0 ≤ n ∧ n < 4294967296) : fits 4 n := .inr (.inr ⟨rfl, h⟩)
theorem result_back (a t : ByteArray) (ha : a.size ≤ 4096) (ht : t.size ≤ 5000) : ∃ s, servermsg_Result.f a = some s ∧ s.size ≤ 100000 ∧ servermsg_ResultOf.f (s ++ t) = some (a, (s.size : Int), 0) := by
  unfold servermsg_Result.f
  by_cases h0 : a.size = 0
  · rw [if_pos h0]
    refine ⟨_, bind_eq (wInts_f 4 [0] ([], 0) (by decide)) rfl, ?_⟩
    rw [pWs_one, pW_fits (fits4 (by decide)), List.nil_append, wL_arr, ba_empty_size.1 h0]
    refine ⟨by rw [strOfNums_size]; decide, ?_⟩
    unfold servermsg_ResultOf.f
    refine result_read0.fin (fun x hx => beL_range (fits4 (by decide)) x hx) t (by rw [beL4_len]; omega) (fun v p => (v, p.at_, (0 : Int))) (fun p => (⟨#[]⟩, 0, if p.re = 0 then p.ce else p.re)) (fun p hp => by show ((⟨#[]⟩ : ByteArray), p.at_, (0 : Int)) = _; rw [hp, strOfNums_size])
  · have e : a.extract 0 (min a.size 4096) = a := ba_extract_all a _ (by omega)
    rw [if_neg h0, if_pos (by omega), e]
    have w1 := wInts_f 4 [1] (([], 0) : WS) (by decide)
    rw [pWs_one, pW_fits (fits4 (by decide)), List.nil_append] at w1
    have w2 := wText_f (wL (beL 4 1), (0 : Int)) a (by show (wL (beL 4 1)).length + a.size ≤ _; rw [wL_length, beL4_len]; omega)
    refine ⟨_, bind_eq w1 (bind_eq w2 rfl), ?_⟩
    have w3 : pT (wL (beL 4 1), (0 : Int)) a = (wL (beL 4 1) ++ wL (beL 4 (a.size : Int) ++ bytesOf a), 0) := by
      unfold pT
      rw [show decide ((a.size : Int) ≤ 4096) = true from decide_eq_true (by omega), errW1_true, pW_fits (fits4 (by omega))]
      show (_ , _) = _
      rw [wL_append (beL 4 (a.size : Int)), wL_bytes, List.append_assoc]
    rw [w3, ← wL_append, wL_arr]
    have hl : (beL 4 1 ++ (beL 4 (a.size : Int) ++ bytesOf a)).length = 8 + a.size := by rw [List.length_append, List.length_append, beL4_len, beL4_len, bytesOf_length]; omega
    refine ⟨by rw [strOfNums_size, hl]; omega, ?_⟩
    unfold servermsg_ResultOf.f
    refine (result_read a h0 ha).fin (fun x hx => ?_) t (by omega) (fun v p => (v, p.at_, (0 : Int))) (fun p => (⟨#[]⟩, 0, if p.re = 0 then p.ce else p.re)) (fun p hp => by show (a, p.at_, (0 : Int)) = _; rw [hp, strOfNums_size])
    rcases List.mem_append.1 hx with hx | hx
    · exact beL_range (fits4 (by decide)) x hx
    · exact text_range a ha x hx
end Go.Proofs.Ytpackckoblpbfaa.H
namespace Go.Proofs.Ytpackckoblpbfaa.H
set_option linter.unusedVariables false
set_option linter.unusedSimpArgs false
open Go.RowKit Go.Proofs.Ytpackckoblpbfaa.X Go.Proofs.Ytpackckoblpbfaa.B Go.Proofs.Ytpackckoblpbfaa.O Go.Proofs.Ytpackckoblpbfaa.F Go.Proofs.YtpackckoblpbfaaW.PrintWords Go.Proofs.YtpackckoblpbfaaW.PrintLast Go.Proofs.YtpackckoblpbfaaW.PrintMore
theorem sgL_ok {n : Int} (h : (sgL n).size ≠ 0) : (-2147483648 ≤ n ∧ n ≤ 2147483647) ∧ (sgL n).data.toList = wL (beL 4 (n % 4294967296)) := by
  unfold sgL at h ⊢
  by_cases k : -2147483648 ≤ n ∧ n ≤ 2147483647
  · rw [if_pos k]; exact ⟨k, rfl⟩
  · rw [if_neg k] at h; exact absurd rfl h
theorem head_read (a b c d e : Int) (h : ∀ n ∈ [a, b, c, d], fits 2 n) (h0 : -2147483648 ≤ e) (h1 : e ≤ 2147483647) : Reads headS (a, b, c, d, e) ([a, b, c, d].flatMap (beL 2) ++ beL 4 (e % 4294967296)) := by
  refine (Reads.bind (g := hA) (read_int (h a (by simp))) (Reads.bind (g := hB a) (read_int (h b (by simp))) (Reads.bind (g := hC a b) (read_int (h c (by simp))) (Reads.bind (g := hD a b c) (read_int (h d (by simp))) (Reads.bind (g := hE a b c d) (read_signed h0 h1) (Reads.pure (a, b, c, d, e))))))).to ?_
  simp [List.flatMap_cons, List.append_assoc]
theorem flat2_len {l : List Int} (h : ∀ n ∈ l, fits 2 n) : (l.flatMap (beL 2)).length = 2 * l.length := by
  induction l with
  | nil => rfl
  | cons x l ih =>
    rw [List.flatMap_cons, List.length_append, ih (fun n hn => h n (List.mem_cons_of_mem _ hn)), List.length_cons]
    simp [beL]; omega
theorem done_len (st : WS) : (doneS st).1.size ≤ st.1.length := by
  unfold doneS
  split
  · exact Nat.zero_le _
  · show (List.toArray _).size ≤ _
    rw [List.size_toArray]; omega
theorem head_back (a b c d e : Int) (he0 : -9223372036854775808 ≤ e) (he1 : e ≤ 9223372036854775807) (t : ByteArray) (ht : t.size ≤ 5000) : ∃ p, servermsg_Put.f a b c d e = some p ∧ p.1.size ≤ 100000 ∧ (p.2 = 0 → servermsg_HeadOf.f (p.1 ++ t) = some (a, b, c, d, e, (p.1.size : Int), 0)) := by
  unfold servermsg_Put.f
  have z1 := pWs_len 2 [a, b, c, d] ([], 0)
  have zl : ([a, b, c, d] : List Int).length = 4 := rfl
  have zs := sgL_size e
  rw [zl, List.length_nil] at z1
  refine ⟨_, bind_eq (wInts_f 2 [a, b, c, d] ([], 0) (by rw [zl, List.length_nil]; omega)) (bind_eq (Signed_f (by decide) e he0 he1) (if_pos (by omega))), ?_, fun h0 => ?_⟩
  · refine Nat.le_trans (done_len _) ?_
    show (_ ++ _ : List UInt8).length ≤ _
    rw [List.length_append, ← ba_size]; omega
  · obtain ⟨h1, _⟩ := doneS_ok h0
    obtain ⟨c1, c2⟩ := errW1_zero (e := 1) (by decide) h1
    obtain ⟨k1, k2⟩ := sgL_ok (of_decide_eq_true c1)
    obtain ⟨a1, a2, a3⟩ := pWs_ok c2
    rw [done_bytes (bs := [a, b, c, d].flatMap (beL 2) ++ beL 4 (e % 4294967296)) h0 (fun _ => by show (pWs 2 [a, b, c, d] ([], 0)).1 ++ (sgL e).data.toList = _; rw [a3, k2, wL_append]; rfl)]
    have hl : ([a, b, c, d].flatMap (beL 2) ++ beL 4 (e % 4294967296)).length = 12 := by rw [List.length_append, flat2_len a2, beL4_len]; rfl
    unfold servermsg_HeadOf.f
    refine (head_read a b c d e a2 k1.1 k1.2).fin (fun x hx => ?_) t (by omega) (fun v p => (v.1, v.2.1, v.2.2.1, v.2.2.2.1, v.2.2.2.2, p.at_, (0 : Int))) (fun p => (0, 0, 0, 0, 0, 0, if p.re = 0 then p.ce else p.re)) (fun p hp => by show (a, b, c, d, e, p.at_, (0 : Int)) = _; rw [hp, strOfNums_size])
    rcases List.mem_append.1 hx with hx | hx
    · exact flat_range a2 x hx
    · exact beL_range (fits4 (by omega)) x hx
/-! A start. -/
theorem pieces_len : ∀ (l : List (Int × Int)) (ys : List Int), pieces l = some ys → ys.length ≤ 4 * l.length
  | [], ys, h => by obtain rfl := Option.some.inj h; exact Nat.le_refl _
  | (z, n) :: l, ys, h => by
    simp only [pieces] at h
    by_cases hf : fits z n
    · rw [if_pos hf] at h
      obtain ⟨y, e1, rfl⟩ := Option.map_eq_some_iff.1 h
      have h1 := pieces_len l y e1
      have h2 := beL_len4 hf
      rw [List.length_append, List.length_cons]; omega
    · rw [if_neg hf] at h; cases h
theorem bytes_any_f (n d : Int) (bg tr : Bool) (m1 m2 m3 s1 s2 s3 : Int) : ∃ s, X.format_Bytes.f n d bg tr m1 m2 m3 s1 s2 s3 = some s ∧ s.size ≤ 1000 := by
  refine ⟨_, bytes_f n d bg tr m1 m2 m3 s1 s2 s3, ?_⟩
  unfold joined
  split
  · exact Nat.zero_le _
  · rename_i ys h
    have := pieces_len _ _ h
    rw [strOfNums_size]
    unfold X.format_tens at this
    simp at this ⊢
    omega
theorem bytesL_len (n d : Int) (bg tr : Bool) (m1 m2 m3 s1 s2 s3 : Int) : (bytesL n d bg tr m1 m2 m3 s1 s2 s3).length = 16 := rfl
theorem bytesL_range {n d : Int} {tr : Bool} {m1 m2 m3 s1 s2 s3 : Int} (hv : Vd n d tr m1 m2 m3 s1 s2 s3) (bg : Bool) : ∀ x ∈ bytesL n d bg tr m1 m2 m3 s1 s2 s3, 0 ≤ x ∧ x < 256 := by
  have hn : n ≤ 32 := by have := hv.bits; omega
  have hn0 : 0 ≤ n := by have := hv.bits; omega
  have hd := hv.depth
  have r1 := okP_m hv.p1
  have r2 := okP_m hv.p2
  have r3 := okP_m hv.p3
  have u1 := okP_s hn hv.p1
  have u2 := okP_s hn hv.p2
  have u3 := okP_s hn hv.p3
  have c1 := bitI_bd bg
  have c2 := bitI_bd tr
  intro x hx
  simp only [bytesL, List.mem_cons, List.not_mem_nil, or_false] at hx
  omega
theorem sA_read {n d : Int} {tr : Bool} {m1 m2 m3 s1 s2 s3 : Int} (hv : Vd n d tr m1 m2 m3 s1 s2 s3) (bg : Bool) (hb : X.format_Valid.f n d bg tr m1 m2 m3 s1 s2 s3 = some true) (u0 u1 : Int) (h0 : u0 ≠ 0) (h1 : u1 ≠ 0) : Reads (sA u0 u1) (n, d, bg, tr, m1, m2, m3, s1, s2, s3, 0) (bytesL n d bg tr m1 m2 m3 s1 s2 s3) := fun pre rest q h => by
  obtain ⟨p, e1, h2, sq⟩ := read_bytes (bs := bytesL n d bg tr m1 m2 m3 s1 s2 s3) (n := 16) rfl pre rest q h
  have e3 := parse_back hv bg hb (⟨#[]⟩ : ByteArray) (Nat.zero_le _)
  rw [ba_append_nil] at e3
  refine ⟨p, ?_, h2, sq⟩
  unfold sA
  refine bind_eq e1 (bind_eq e3 ?_)
  show some ((n, d, bg, tr, m1, m2, m3, s1, s2, s3, (0 : Int)), failS (failS p (u0 == 0 || u1 == 0) 3) ((0 : Int) != 0) 0) = _
  rw [show (u0 == 0 || u1 == 0) = false by simp [h0, h1], show ((0 : Int) != 0) = false from rfl, failS_false, failS_false]
theorem start_read {n d : Int} {tr : Bool} {m1 m2 m3 s1 s2 s3 : Int} (hv : Vd n d tr m1 m2 m3 s1 s2 s3) (bg : Bool) (hb : X.format_Valid.f n d bg tr m1 m2 m3 s1 s2 s3 = some true) (u0 u1 : Int) (h0 : u0 ≠ 0) (h1 : u1 ≠ 0) (f0 : fits 2 u0) (f1 : fits 2 u1) (x : ByteArray) (hx : x.size ≤ 4096) :
    Reads startS (u0, u1, n, d, bg, tr, m1, m2, m3, s1, s2, s3, x) (beL 2 u0 ++ (beL 2 u1 ++ (bytesL n d bg tr m1 m2 m3 s1 s2 s3 ++ (beL 4 (x.size : Int) ++ bytesOf x)))) := by
  rw [start_eq]
  refine Reads.bind (g := sD) (read_int f0) (Reads.bind (g := sC u0) (read_int f1) (Reads.bind (g := sB u0 u1) (sA_read hv bg hb u0 u1 h0 h1) ?_))
  intro pre rest q h
  show ∃ p, sB u0 u1 (n, d, bg, tr, m1, m2, m3, s1, s2, s3, 0) q = _ ∧ _
  have e : sB u0 u1 (n, d, bg, tr, m1, m2, m3, s1, s2, s3, 0) q = sU u0 u1 (n, d, bg, tr, m1, m2, m3, s1, s2, s3, 0) q := if_pos h.r
  rw [e]
  have k := (Reads.bind (g := sT u0 u1 (n, d, bg, tr, m1, m2, m3, s1, s2, s3, 0)) (read_text hx) (Reads.pure (u0, u1, n, d, bg, tr, m1, m2, m3, s1, s2, s3, x))).to (List.append_nil _)
  exact k pre rest q h
theorem start_back (u0 u1 n d : Int) (bg tr : Bool) (m1 m2 m3 s1 s2 s3 : Int) (x t : ByteArray) (hx : x.size ≤ 5000) (ht : t.size ≤ 5000) : ∃ p, servermsg_Bytes.f u0 u1 n d bg tr m1 m2 m3 s1 s2 s3 x = some p ∧ p.1.size ≤ 100000 ∧ (p.2 = 0 → servermsg_StartOf.f (p.1 ++ t) = some (u0, u1, n, d, bg, tr, m1, m2, m3, s1, s2, s3, x, (p.1.size : Int), 0)) := by
  unfold servermsg_Bytes.f
  rw [if_pos (by omega)]
  obtain ⟨b, hb, hv⟩ := valid_p n d bg tr m1 m2 m3 s1 s2 s3
  obtain ⟨fb, hfb, hfz⟩ := bytes_any_f n d bg tr m1 m2 m3 s1 s2 s3
  rw [hb, Option.bind_some]
  generalize he : errW1 (decide (u0 ≠ 0 ∧ u1 ≠ 0)) 1 (errW1 b 130 0) = e
  have z1 := pWs_len 2 [u0, u1] ([], e)
  have zl : ([u0, u1] : List Int).length = 2 := rfl
  have zf := ba_size fb
  rw [zl, List.length_nil] at z1
  have zt : ((pWs 2 [u0, u1] ([], e)).1 ++ fb.data.toList, (pWs 2 [u0, u1] ([], e)).2).1.length ≤ 2000 := by
    show (_ ++ _ : List UInt8).length ≤ _
    rw [List.length_append]; omega
  refine ⟨_, bind_eq (wInts_f 2 [u0, u1] ([], e) (by rw [zl, List.length_nil]; omega)) (bind_eq hfb ((if_pos (by omega)).trans (bind_eq (wText_f _ x (by omega)) rfl))), ?_, fun h0 => ?_⟩
  · refine Nat.le_trans (done_len _) ?_
    generalize (((pWs 2 [u0, u1] ([], e)).1 ++ fb.data.toList, (pWs 2 [u0, u1] ([], e)).2) : WS) = q at zt
    unfold pT
    rw [pA_1, List.length_append, ← ba_size]
    have := pW_len 4 (q.1, errW1 (decide ((x.size : Int) ≤ 4096)) 1 q.2) (x.size : Int)
    have k : (q.1, errW1 (decide ((x.size : Int) ≤ 4096)) 1 q.2).1.length = q.1.length := rfl
    omega
  · obtain ⟨h1, _⟩ := doneS_ok h0
    obtain ⟨c1, c2, c3⟩ := pT_ok h1
    obtain ⟨a1, a2, a3⟩ := pWs_ok c1
    have a1 : e = 0 := a1
    rw [a1] at he
    obtain ⟨d1, d2⟩ := errW1_zero (e := 1) (by decide) he
    obtain ⟨d3, _⟩ := errW1_zero (e := 130) (by decide) d2
    have d1 := of_decide_eq_true d1
    subst d3
    have hV := hv.1 rfl
    have hfb2 := bytes_valid hV bg
    rw [hfb] at hfb2
    obtain rfl := Option.some.inj hfb2
    have f0 := a2 u0 (by simp)
    have f1 := a2 u1 (by simp)
    rw [done_bytes (bs := beL 2 u0 ++ (beL 2 u1 ++ (bytesL n d bg tr m1 m2 m3 s1 s2 s3 ++ (beL 4 (x.size : Int) ++ bytesOf x)))) h0 (fun _ => by
      rw [c3]
      show ((pWs 2 [u0, u1] ([], e)).1 ++ wL (bytesL n d bg tr m1 m2 m3 s1 s2 s3)) ++ _ = _
      rw [a3]
      simp [wL_append, List.append_assoc])]
    have hl : (beL 2 u0 ++ (beL 2 u1 ++ (bytesL n d bg tr m1 m2 m3 s1 s2 s3 ++ (beL 4 (x.size : Int) ++ bytesOf x)))).length = 24 + x.size := by
      rw [List.length_append, List.length_append, List.length_append, List.length_append, bytesL_len, beL4_len, bytesOf_length]
      simp [beL]; omega
    unfold servermsg_StartOf.f
    refine (start_read hV bg hb u0 u1 d1.1 d1.2 f0 f1 x c2).fin (fun y hy => ?_) t (by omega) (fun v p => (v.1, v.2.1, v.2.2.1, v.2.2.2.1, v.2.2.2.2.1, v.2.2.2.2.2.1, v.2.2.2.2.2.2.1, v.2.2.2.2.2.2.2.1, v.2.2.2.2.2.2.2.2.1, v.2.2.2.2.2.2.2.2.2.1, v.2.2.2.2.2.2.2.2.2.2.1, v.2.2.2.2.2.2.2.2.2.2.2.1, v.2.2.2.2.2.2.2.2.2.2.2.2, p.at_, (0 : Int))) (fun p => (0, 0, 0, 0, false, false, 0, 0, 0, 0, 0, 0, ⟨#[]⟩, 0, if p.re = 0 then p.ce else p.re)) (fun p hp => by show (u0, u1, n, d, bg, tr, m1, m2, m3, s1, s2, s3, x, p.at_, (0 : Int)) = _; rw [hp, strOfNums_size])
    rcases List.mem_append.1 hy with hy | hy
    · exact beL_range f0 y hy
    rcases List.mem_append.1 hy with hy | hy
    · exact beL_range f1 y hy
    rcases List.mem_append.1 hy with hy | hy
    · exact bytesL_range hV bg y hy
    · exact text_range x c2 y hy
end Go.Proofs.Ytpackckoblpbfaa.H
namespace Go.Proofs.Ytpackckoblpbfaa.H
set_option linter.unusedVariables false
set_option linter.unusedSimpArgs false
open Go.RowKit Go.Proofs.Ytpackckoblpbfaa.X Go.Proofs.Ytpackckoblpbfaa.B Go.Proofs.Ytpackckoblpbfaa.O Go.Proofs.Ytpackckoblpbfaa.F Go.Proofs.YtpackckoblpbfaaW.PrintWords Go.Proofs.YtpackckoblpbfaaW.PrintLast Go.Proofs.YtpackckoblpbfaaW.PrintMore
theorem fits1_ {n : Int} (h : 0 ≤ n ∧ n < 256) : fits 1 n := .inl ⟨rfl, h⟩
theorem msg_read6 (n : Int) (h : fits 2 n) : Reads msgS (6, n, ⟨#[]⟩) (beL 1 0 ++ ([0] ++ beL 2 n)) := by
  refine Reads.bind (g := mG) (v := (0 : Int)) (read_int (fits1_ (by decide))) ?_
  have e : mG 0 = fun q => (bytesS q 1).bind fun p => mA p.1 p.2 := by funext q; exact if_pos rfl
  rw [e]
  refine Reads.bind (g := mA) (read_bytes (bs := [0]) rfl) ?_
  exact (Reads.bind (g := mN) (read_int h) (Reads.pure (6, n, (⟨#[]⟩ : ByteArray)))).to (List.append_nil _)
theorem msg_read7 : Reads msgS (7, 0, ⟨#[]⟩) (beL 1 2) := by
  refine (Reads.bind (g := mG) (v := (2 : Int)) (u := ((7 : Int), (0 : Int), (⟨#[]⟩ : ByteArray))) (cs := []) (read_int (fits1_ (by decide))) ?_).to (List.append_nil _)
  have e : mG 2 = fun q => some ((7, 0, (⟨#[]⟩ : ByteArray)), q) := by funext q; exact (if_neg (by decide)).trans (if_pos rfl)
  rw [e]
  exact Reads.pure _
theorem msg_read5 (t : ByteArray) (h : t.size ≤ 4096) : Reads msgS (5, 0, t) (beL 1 3 ++ ([0, 0, 0] ++ (beL 4 (t.size : Int) ++ bytesOf t))) := by
  refine Reads.bind (g := mG) (v := (3 : Int)) (read_int (fits1_ (by decide))) ?_
  have e : mG 3 = fun q => (bytesS q 3).bind fun p => mB p.1 p.2 := by funext q; exact (if_neg (by decide)).trans ((if_neg (by decide)).trans (if_pos rfl))
  rw [e]
  refine Reads.bind (g := mB) (read_bytes (bs := [0, 0, 0]) rfl) ?_
  exact (Reads.bind (g := mT) (read_text h) (Reads.pure (5, 0, t))).to (List.append_nil _)
/-- What Parse tells of a message. -/
def msgV (v : Int × Int × ByteArray) (a : Int) : Int × Bool × Int × Int × Int × Int × Int × Int × Int × Bool × Bool × Int × Int × Int × Int × Int × Int × List Int × ByteArray × Int × Int := (v.1, false, v.2.1, 0, 0, 0, 0, 0, 0, false, false, 0, 0, 0, 0, 0, 0, [], v.2.2, a, 0)
theorem parse_of {v : Int × Int × ByteArray} {bs : List Int} (h : Reads msgS v bs) (hr : ∀ x ∈ bs, 0 ≤ x ∧ x < 256) (t : ByteArray) (hz : bs.length + t.size ≤ 4611686018427387904) : servermsg_Parse.f (strOfNums bs ++ t) = some (msgV v (bs.length : Int)) := by
  unfold servermsg_Parse.f
  exact h.fin hr t hz (fun v p => msgV v p.at_) (fun p => (0, false, 0, 0, 0, 0, 0, 0, 0, false, false, 0, 0, 0, 0, 0, 0, [], ⟨#[]⟩, 0, if p.re = 0 then p.ce else p.re)) (fun p hp => by rw [hp])
theorem pWs_fits {z : Int} : ∀ {l : List Int} {st : WS}, (∀ n ∈ l, fits z n) → pWs z l st = (st.1 ++ wL (l.flatMap (beL z)), st.2)
  | [], st, h => by show st = _; rw [List.flatMap_nil, wL_nil, List.append_nil]
  | n :: l, st, h => by
    show pWs z l (pW z st n) = _
    rw [pW_fits (h n (List.mem_cons_self ..)), pWs_fits (fun m hm => h m (List.mem_cons_of_mem _ hm)), List.flatMap_cons, wL_append, List.append_assoc]
theorem say_back (kind n : Int) (fl : Bool) (r0 r1 r2 r3 : Int) (f0 f1 : Int) (b0 b1 : Bool) (f2 f3 f4 f5 f6 f7 : Int) (l : List Int) (x t : ByteArray) (hx : x.size ≤ 5000) (ht : t.size ≤ 1000000000) :
    ∃ p, servermsg_Say.f kind fl n r0 r1 r2 r3 f0 f1 b0 b1 f2 f3 f4 f5 f6 f7 l x = some p ∧ p.1.size ≤ 6000 ∧ (p.2 = 0 → p.1.size ≠ 0 ∧ ∃ v : Int × Int × ByteArray, servermsg_Parse.f (p.1 ++ t) = some (msgV v (p.1.size : Int)) ∧ v.1 = kind ∧ (kind = 6 → v.2.1 = n) ∧ (kind = 5 → v.2.2 = x)) := by
  unfold servermsg_Say.f
  by_cases h6 : kind = 6
  · subst h6
    rw [if_pos rfl]
    have w1 := wInts_f 1 [0, 0] (([], 0) : WS) (by decide)
    rw [pWs_fits (by simp; exact fits1_ (by decide)), List.nil_append] at w1
    have hz : (wL ([0, 0].flatMap (beL 1)), (0 : Int)).1.length = 2 := by show (wL _).length = 2; rw [wL_length, flat_len1]; rfl
    have w2 := wInts_f 2 [n] (wL ([0, 0].flatMap (beL 1)), (0 : Int)) (by rw [hz, List.length_singleton]; omega)
    have z2 := pWs_len 2 [n] (wL ([0, 0].flatMap (beL 1)), (0 : Int))
    rw [hz, List.length_singleton] at z2
    refine ⟨_, bind_eq w1 (bind_eq w2 rfl), Nat.le_trans (done_len _) (by omega), fun h0 => ?_⟩
    obtain ⟨a1, a2, a3⟩ := pWs_ok (doneS_ok h0).1
    have fn := a2 n (by simp)
    rw [done_bytes (bs := beL 1 0 ++ ([0] ++ beL 2 n)) h0 (fun _ => by rw [a3]; show wL _ ++ wL _ = _; rw [← wL_append]; simp [beL])]
    have hl : (beL 1 0 ++ ([0] ++ beL 2 n)).length = 4 := by simp [beL]
    rw [strOfNums_size, hl]
    refine ⟨by decide, _, (parse_of (msg_read6 n fn) (fun y hy => ?_) t (by omega)).trans (by rw [hl]), rfl, fun _ => rfl, fun h => by omega⟩
    rcases List.mem_append.1 hy with hy | hy
    · exact beL_range (fits1_ (by decide)) y hy
    rcases List.mem_append.1 hy with hy | hy
    · simp at hy; omega
    · exact beL_range fn y hy
  · rw [if_neg h6]
    by_cases h7 : kind = 7
    · subst h7
      rw [if_pos rfl]
      have w1 := wInts_f 1 [2] (([], 0) : WS) (by decide)
      rw [pWs_fits (by simp; exact fits1_ (by decide)), List.nil_append] at w1
      refine ⟨_, bind_eq w1 rfl, Nat.le_trans (done_len _) (by show (wL _).length ≤ _; rw [wL_length, flat_len1]; decide), fun h0 => ?_⟩
      rw [done_bytes (bs := beL 1 2) h0 (fun _ => rfl)]
      have hl : (beL 1 2).length = 1 := rfl
      rw [strOfNums_size, hl]
      exact ⟨by decide, _, (parse_of msg_read7 (fun y hy => beL_range (fits1_ (by decide)) y hy) t (by omega)).trans (by rw [hl]), rfl, fun h => by omega, fun h => by omega⟩
    · rw [if_neg h7]
      by_cases h5 : kind = 5
      · subst h5
        rw [if_pos rfl, if_pos (by omega)]
        have w1 := wInts_f 1 [3, 0, 0, 0] (([], 0) : WS) (by decide)
        rw [pWs_fits (by simp; exact ⟨fits1_ (by decide), fits1_ (by decide)⟩), List.nil_append] at w1
        have hz : (wL ([3, 0, 0, 0].flatMap (beL 1)), (0 : Int)).1.length = 4 := by show (wL _).length = 4; rw [wL_length, flat_len1]; rfl
        have w2 := wText_f (wL ([3, 0, 0, 0].flatMap (beL 1)), (0 : Int)) x (by rw [hz]; omega)
        refine ⟨_, bind_eq w1 (bind_eq w2 rfl), Nat.le_trans (done_len _) ?_, fun h0 => ?_⟩
        · generalize ((wL ([3, 0, 0, 0].flatMap (beL 1)), (0 : Int)) : WS) = q at hz
          unfold pT
          rw [pA_1, List.length_append, ← ba_size]
          have := pW_len 4 (q.1, errW1 (decide ((x.size : Int) ≤ 4096)) 1 q.2) (x.size : Int)
          have k : (q.1, errW1 (decide ((x.size : Int) ≤ 4096)) 1 q.2).1.length = q.1.length := rfl
          omega
        · obtain ⟨a1, a2, a3⟩ := pT_ok (doneS_ok h0).1
          rw [done_bytes (bs := beL 1 3 ++ ([0, 0, 0] ++ (beL 4 (x.size : Int) ++ bytesOf x))) h0 (fun _ => by rw [a3]; show wL _ ++ wL _ = _; rw [← wL_append]; simp [beL])]
          have hl : (beL 1 3 ++ ([0, 0, 0] ++ (beL 4 (x.size : Int) ++ bytesOf x))).length = 8 + x.size := by rw [List.length_append, List.length_append, List.length_append, beL4_len, bytesOf_length]; simp [beL]; omega
          rw [strOfNums_size, hl]
          refine ⟨by omega, _, (parse_of (msg_read5 x a2) (fun y hy => ?_) t (by omega)).trans (by rw [hl]), rfl, fun h => by omega, fun _ => rfl⟩
          rcases List.mem_append.1 hy with hy | hy
          · exact beL_range (fits1_ (by decide)) y hy
          rcases List.mem_append.1 hy with hy | hy
          · simp at hy; omega
          · exact text_range x a2 y hy
      · rw [if_neg h5]
        exact ⟨_, rfl, Nat.zero_le _, fun h => absurd h (by decide)⟩
end Go.Proofs.Ytpackckoblpbfaa.H
namespace Go.Proofs.Ytpackckoblpbfaa.RC
open Go.ChangeShapes Go.WideShapes Go.RowKit Go.Proofs.YtpackckoblpbfaaW.PrintWords Go.Proofs.YtpackckoblpbfaaW.PrintLast Go.Proofs.YtpackckoblpbfaaW.PrintMore Go.Proofs.Ytpackckoblpbfaa.FL
set_option linter.unusedVariables false
set_option linter.unusedSimpArgs false
set_option maxRecDepth 100000
/-- A message: its fields, in order; of the slice: where it lies, what it holds, its capacity. -/
structure MsgR where
  k : Int
  fl : Bool
  n : Int
  r0 : Int
  r1 : Int
  r2 : Int
  r3 : Int
  f0 : Int
  f1 : Int
  b0 : Bool
  b1 : Bool
  f2 : Int
  f3 : Int
  f4 : Int
  f5 : Int
  f6 : Int
  f7 : Int
  A : Option Addr
  xs : List Int
  c : Nat
  x : ByteArray
instance : Inhabited MsgR := ⟨⟨0, false, 0, 0, 0, 0, 0, 0, 0, false, false, 0, 0, 0, 0, 0, 0, none, [], 0, ⟨#[]⟩⟩⟩
def MsgR.row (m : MsgR) : List Value := [.int .i64 m.k, .bool m.fl, .int .i64 m.n, .int .i64 m.r0, .int .i64 m.r1, .int .i64 m.r2, .int .i64 m.r3, .int .i64 m.f0, .int .i64 m.f1, .bool m.b0, .bool m.b1, .int .i64 m.f2, .int .i64 m.f3, .int .i64 m.f4, .int .i64 m.f5, .int .i64 m.f6, .int .i64 m.f7, .slice m.A m.xs.length m.c, .string m.x]
/-- What holds of a message that is handed in. -/
structure MsgR.Ok (m : MsgR) (w : World) : Prop where
  w_k : (Lit.int .i64 m.k).wf = true
  w_n : (Lit.int .i64 m.n).wf = true
  w_r0 : (Lit.int .i64 m.r0).wf = true
  w_r1 : (Lit.int .i64 m.r1).wf = true
  w_r2 : (Lit.int .i64 m.r2).wf = true
  w_r3 : (Lit.int .i64 m.r3).wf = true
  w_f0 : (Lit.int .i64 m.f0).wf = true
  w_f1 : (Lit.int .i64 m.f1).wf = true
  w_f2 : (Lit.int .i64 m.f2).wf = true
  w_f3 : (Lit.int .i64 m.f3).wf = true
  w_f4 : (Lit.int .i64 m.f4).wf = true
  w_f5 : (Lit.int .i64 m.f5).wf = true
  w_f6 : (Lit.int .i64 m.f6).wf = true
  w_f7 : (Lit.int .i64 m.f7).wf = true
  c_ : Kd.C (Kd.int .i64) w m.A m.xs.length m.xs
  cc : m.xs.length ≤ m.c
  z : m.x.size ≤ maxLen
theorem open_msgs {H : Type} {enc : TypeId × Value → H} {w : World} {base b0 : Nat} {held : Bool} {v : Value} {d : DataW H} {p : List MemPlace} (hv : Value.okWide Try.prog w .any b0 48 v)
    (h : DataW.Trod enc Try.prog w base (fun _ => true) held 48 v d p) : ∃ (a : Option Addr) (len cap : Nat) (zs : List MsgR), v = .slice a len cap ∧ zs.length = len ∧ len ≤ cap ∧ cap ≤ maxLen ∧ (∀ m ∈ zs, MsgR.Ok m w) ∧ (∀ i, i < zs.length → ∃ ad, a = some ad ∧ ∀ o u, (zs.getD i default).row[o]? = some u → w.cell? (ad.add (i * 19 + o)) = some u) := by
  obtain ⟨a, len, cap, rfl⟩ := okWide_slice Try.underlying48 hv
  obtain ⟨fuel, hf⟩ := h
  obtain ⟨⟨h1, h2⟩, h0, hel⟩ := open_elems Try.underlying48 (show DataW.trod enc Try.prog w base (fun _ => true) held fuel _ [.slice a len cap] = some _ from by simpa [Value.cells] using hf)
  have hC : Try.prog.cellsOf 33 = 19 := by kernel_rfl
  obtain ⟨zs, hz, hr⟩ := exists_list (fun i (z : MsgR) => (∃ ad, a = some ad ∧ ∀ o u, z.row[o]? = some u → w.cell? (ad.add (i * 19 + o)) = some u) ∧ z.Ok w) len (fun i hi => by
    obtain ⟨ad, rfl⟩ : ∃ ad, a = some ad := by
      cases a with
      | none => exact absurd (h0 rfl) (by omega)
      | some ad => exact ⟨ad, rfl⟩
    obtain ⟨cs, f', y, hl, hc, ht⟩ := hel ad rfl i hi
    rw [hC] at hc hl
    obtain ⟨n0, e0, w0⟩ := leaf_int ht 0 31 Try.underlying31 (by kernel_rfl)
    obtain ⟨n1, e1⟩ := leaf_bool ht 1 4 Try.underlying4 (by kernel_rfl)
    obtain ⟨n2, e2, w2⟩ := leaf_int ht 2 3 Try.underlying3 (by kernel_rfl)
    obtain ⟨n3, e3, w3⟩ := leaf_int ht 3 3 Try.underlying3 (by kernel_rfl)
    obtain ⟨n4, e4, w4⟩ := leaf_int ht 4 3 Try.underlying3 (by kernel_rfl)
    obtain ⟨n5, e5, w5⟩ := leaf_int ht 5 3 Try.underlying3 (by kernel_rfl)
    obtain ⟨n6, e6, w6⟩ := leaf_int ht 6 3 Try.underlying3 (by kernel_rfl)
    obtain ⟨n7, e7, w7⟩ := leaf_int ht 7 3 Try.underlying3 (by kernel_rfl)
    obtain ⟨n8, e8, w8⟩ := leaf_int ht 8 3 Try.underlying3 (by kernel_rfl)
    obtain ⟨n9, e9⟩ := leaf_bool ht 9 4 Try.underlying4 (by kernel_rfl)
    obtain ⟨n10, e10⟩ := leaf_bool ht 10 4 Try.underlying4 (by kernel_rfl)
    obtain ⟨n11, e11, w11⟩ := leaf_int ht 11 3 Try.underlying3 (by kernel_rfl)
    obtain ⟨n12, e12, w12⟩ := leaf_int ht 12 3 Try.underlying3 (by kernel_rfl)
    obtain ⟨n13, e13, w13⟩ := leaf_int ht 13 3 Try.underlying3 (by kernel_rfl)
    obtain ⟨n14, e14, w14⟩ := leaf_int ht 14 3 Try.underlying3 (by kernel_rfl)
    obtain ⟨n15, e15, w15⟩ := leaf_int ht 15 3 Try.underlying3 (by kernel_rfl)
    obtain ⟨n16, e16, w16⟩ := leaf_int ht 16 3 Try.underlying3 (by kernel_rfl)
    obtain ⟨A17, n17, c17, e17, w17, y17⟩ := leaf_ints ht 17 22 Try.underlying22 Try.underlying3 (by kernel_rfl) (by kernel_rfl)
    obtain ⟨n18, e18, w18⟩ := leaf_str ht 18 9 Try.underlying9 (by kernel_rfl)
    refine ⟨⟨n0, n1, n2, n3, n4, n5, n6, n7, n8, n9, n10, n11, n12, n13, n14, n15, n16, A17, n17, c17, n18⟩, ⟨ad, rfl, fun o u ho => ?_⟩, ⟨w0, w2, w3, w4, w5, w6, w7, w8, w11, w12, w13, w14, w15, w16, w17, y17, w18⟩⟩
    refine hc o u ?_
    match o, ho with
    | 0, ho => rw [e0]; exact ho
    | 1, ho => rw [e1]; exact ho
    | 2, ho => rw [e2]; exact ho
    | 3, ho => rw [e3]; exact ho
    | 4, ho => rw [e4]; exact ho
    | 5, ho => rw [e5]; exact ho
    | 6, ho => rw [e6]; exact ho
    | 7, ho => rw [e7]; exact ho
    | 8, ho => rw [e8]; exact ho
    | 9, ho => rw [e9]; exact ho
    | 10, ho => rw [e10]; exact ho
    | 11, ho => rw [e11]; exact ho
    | 12, ho => rw [e12]; exact ho
    | 13, ho => rw [e13]; exact ho
    | 14, ho => rw [e14]; exact ho
    | 15, ho => rw [e15]; exact ho
    | 16, ho => rw [e16]; exact ho
    | 17, ho => rw [e17]; exact ho
    | 18, ho => rw [e18]; exact ho
    | o + 19, ho => simp [MsgR.row] at ho)
  subst hz
  refine ⟨a, zs.length, cap, zs, rfl, rfl, h1, h2, fun m hm => ?_, fun i hi => (hr i hi).1⟩
  obtain ⟨i, hi, rfl⟩ := List.mem_iff_getElem.1 hm
  have := (hr i hi).2
  rw [List.getD_eq_getElem?_getD, List.getElem?_eq_getElem hi] at this
  exact this
end Go.Proofs.Ytpackckoblpbfaa.RC
namespace Go.Proofs.Ytpackckoblpbfaa.H
open Go.RowKit Go.Proofs.YtpackckoblpbfaaW.PrintWords Go.Proofs.YtpackckoblpbfaaW.PrintLast Go.Proofs.YtpackckoblpbfaaW.PrintMore Go.Proofs.Ytpackckoblpbfaa.X Go.Proofs.Ytpackckoblpbfaa.RC
set_option linter.unusedVariables false
set_option linter.unusedSimpArgs false
def elOk (W : World) (a : Addr) (n : Nat) : Bool := (List.range n).all fun j => (W.cell? (a.add j)).isSome
def elAt (W : World) (a : Addr) (n : Nat) : Array Value := ((List.range n).map fun j => (W.cell? (a.add j)).getD (.int .i64 0)).toArray
theorem load_el {P : Program} {ty : TypeId} {n : Nat} {d : TypeDesc} (hu : P.underlying ty = some d) (hd : (match d with | .struct _ | .array _ _ => true | _ => false) = true) (hi : (P.info? ty).map (·.size) = some n) (W : World) (a : Addr) (h : elOk W a n = true) : (loadVar ty a).run P W = .ok (.agg (elAt W a n)) W := by
  have hl : (loadCells a ((List.range n).map fun j => (W.cell? (a.add j)).getD (.int .i64 0)).length).run P W = .ok (elAt W a n) W :=
    run_loadCells_list (P := P) W a _ (fun j v hv => by
      obtain ⟨hj, e⟩ := List.getElem?_eq_some_iff.1 hv
      simp only [List.length_map, List.length_range] at hj
      simp only [List.getElem_map, List.getElem_range] at e
      have := List.all_eq_true.1 h j (List.mem_range.2 hj)
      obtain ⟨u, hu⟩ := Option.isSome_iff_exists.1 this
      rw [hu] at e ⊢
      simpa using e)
  cases hq : P.info? ty with
  | none => simp [hq] at hi
  | some i =>
    have hs : i.size = n := by simpa [hq] using hi
    have hagg : (isAgg ty).run P W = .ok true W := by
      unfold isAgg
      rw [Sem.run_bind, run_underlying hu W]
      cases d <;> simp_all
    simp only [List.length_map, List.length_range] at hl
    simp [loadVar, Sem.run_bind, hagg, sizeOf, typeInfo, hq, hs, hl]
theorem ldOut_el {P : Program} {ty : TypeId} {n : Nat} {d : TypeDesc} (hu : P.underlying ty = some d) (hd : (match d with | .struct _ | .array _ _ => true | _ => false) = true) (hi : (P.info? ty).map (·.size) = some n) (W : World) (a : Addr) (h : elOk W a n = true) : ldOut P ty W (.pointer (some a)) = .ok (.value (.agg (elAt W a n))) W := by
  unfold ldOut
  simp only [Instr.loadAt, Instr.sureAddr, Sem.run_bind, Sem.run_pure, Result.andThen_ok, load_el hu hd hi W a h]
theorem el_of {W : World} {a : Addr} {row : List Value} (h : ∀ o u, row[o]? = some u → W.cell? (a.add o) = some u) : elOk W a row.length = true ∧ elAt W a row.length = row.toArray := by
  constructor
  · unfold elOk
    refine List.all_eq_true.2 fun j hj => ?_
    have hj := List.mem_range.1 hj
    rw [h j _ (List.getElem?_eq_getElem hj)]; rfl
  · unfold elAt
    congr 1
    apply List.ext_getElem?
    intro j
    by_cases hj : j < row.length
    · rw [List.getElem?_map, List.getElem?_range hj, List.getElem?_eq_getElem hj, Option.map_some, h j _ (List.getElem?_eq_getElem hj)]; rfl
    · rw [List.getElem?_eq_none (by simp; omega), List.getElem?_eq_none (by omega)]
theorem cell_form {w : World} {a : Addr} {j : Nat} {v : Value} (h : w.cell? (a.add j) = some v) : w.cell? ⟨a.block, a.off + j, none⟩ = some v := by
  obtain ⟨b, o, sp⟩ := a
  by_cases hj : j = 0
  · subst hj
    have e : (⟨b, o, sp⟩ : Addr).add 0 = ⟨b, o, sp⟩ := by simp [Addr.add]
    rw [e] at h
    cases sp with
    | none => exact h
    | some s =>
      exfalso
      unfold World.cell? at h
      split at h <;> simp at h
  · have e : (⟨b, o, sp⟩ : Addr).add j = ⟨b, o + j, none⟩ := by simp [Addr.add, hj]
    rwa [e] at h
/-! A whole row, stored: what is read behind it. -/
theorem rowAt_row {W : World} {g : Nat} {t : TypeId} {n : Nat} {cs : Array Value} (h : X.rowAt W g t n = true) (hn : cs.size = n) : X.rowAt (W.setRow g cs) g t n = true := by
  obtain ⟨old, h1, _⟩ := X.of_rowAt h
  exact X.rowAt_of (setRow_heap W g old cs t _ h1) hn
theorem rowAt_new (W : World) (cs : Array Value) (h : cs.size = 19) : X.rowAt (W.alloc (.cells cs 33)) W.heap.size 33 19 = true := X.rowAt_of (heap_alloc_new W _) h
theorem cell_row_ne {W : World} {a : Addr} {g : Nat} {cs : Array Value} (h : a.block ≠ g) : (W.setRow g cs).cell? a = W.cell? a := by unfold World.cell?; rw [setRow_other W g a.block cs h]
theorem cell_row33 {W : World} {g o : Nat} {cs : Array Value} (h : X.rowAt W g 33 19 = true) : (W.setRow g cs).cell? ⟨g, o, none⟩ = cs[o]? := by
  obtain ⟨old, h1, _⟩ := X.of_rowAt h
  unfold World.cell?
  rw [setRow_heap W g old cs _ _ h1]
  rfl
theorem exec_store_M (ρ : Operand → Value) (d : Option Tmp) (x y : Operand) (ty : TypeId) (ps : String) (af : Array Edge) (gd : Option (Nat × Bool)) (P : Program) (W : World) : (execOp ρ ⟨d, .store 33 x y, ty, ps, af, gd⟩).run P W = stOut P 33 W (ρ x) (ρ y) := rfl
theorem exec_load_M (ρ : Operand → Value) (d : Option Tmp) (x : Operand) (ty : TypeId) (ps : String) (af : Array Edge) (gd : Option (Nat × Bool)) (P : Program) (W : World) : (execOp ρ ⟨d, .load 33 x, ty, ps, af, gd⟩).run P W = ldOut P 33 W (ρ x) := rfl
theorem store_M (W : World) (g : Nat) (x0 : Int) (x1 : Bool) (x2 x3 x4 x5 x6 x7 x8 : Int) (x9 x10 : Bool) (x11 x12 x13 x14 x15 x16 : Int) (A17 : Option Addr) (n17 c17 : Nat) (x18 : ByteArray) (h : X.rowAt W g 33 19 = true) : stOut Try.prog 33 W (.pointer (some ⟨g, 0, none⟩)) (.agg #[.int .i64 x0, .bool x1, .int .i64 x2, .int .i64 x3, .int .i64 x4, .int .i64 x5, .int .i64 x6, .int .i64 x7, .int .i64 x8, .bool x9, .bool x10, .int .i64 x11, .int .i64 x12, .int .i64 x13, .int .i64 x14, .int .i64 x15, .int .i64 x16, .slice A17 n17 c17, .string x18]) = .ok .skip (W.setRow g #[.int .i64 x0, .bool x1, .int .i64 x2, .int .i64 x3, .int .i64 x4, .int .i64 x5, .int .i64 x6, .int .i64 x7, .int .i64 x8, .bool x9, .bool x10, .int .i64 x11, .int .i64 x12, .int .i64 x13, .int .i64 x14, .int .i64 x15, .int .i64 x16, .slice A17 n17 c17, .string x18]) := stOut_any (by kernel_rfl) W g _ rfl (by simp [Value.oneCell']) h
theorem load_M (W : World) (a : Addr) (h : elOk W a 19 = true) : ldOut Try.prog 33 W (.pointer (some a)) = .ok (.value (.agg (elAt W a 19))) W := ldOut_el Try.underlying33 rfl (by kernel_rfl) W a h
end Go.Proofs.Ytpackckoblpbfaa.H
namespace Go.Proofs.Ytpackckoblpbfaa.H
open Go.RowKit Go.Proofs.YtpackckoblpbfaaW.PrintWords Go.Proofs.YtpackckoblpbfaaW.PrintLast Go.Proofs.YtpackckoblpbfaaW.PrintMore Go.Proofs.Ytpackckoblpbfaa.B Go.Proofs.Ytpackckoblpbfaa.O Go.Proofs.Ytpackckoblpbfaa.F Go.Proofs.Ytpackckoblpbfaa.RC
set_option linter.unusedVariables false
set_option linter.unusedSimpArgs false
/-- What the server says of a message. -/
def saidF (m : MsgR) : Option (ByteArray × Int) := X.servermsg_Say.f m.k m.fl m.n m.r0 m.r1 m.r2 m.r3 m.f0 m.f1 m.b0 m.b1 m.f2 m.f3 m.f4 m.f5 m.f6 m.f7 m.xs m.x
def said (m : MsgR) : ByteArray := match saidF m with | some p => p.1 | none => ⟨#[]⟩
/-- It may be said. -/
def OkM (m : MsgR) : Prop := m.x.size ≤ 5000 ∧ saidF m = some (said m, 0)
theorem said_of {m : MsgR} {p : ByteArray × Int} (h : saidF m = some p) : said m = p.1 := by unfold said; rw [h]
/-- What was said by the first k, and what is left behind the first k. -/
def cat (l : List MsgR) : List Int := l.flatMap fun m => bytesOf (said m)
def Said (zs : List MsgR) (k : Nat) (s : ByteArray) : Prop := (∀ m ∈ zs.take k, OkM m) ∧ bytesOf s = cat (zs.take k) ∧ s.size ≤ 6000 * k
theorem Said.zero (zs : List MsgR) : Said zs 0 ⟨#[]⟩ := ⟨(fun m h => by simp at h), by simp [cat, bytes_empty], Nat.zero_le _⟩
/-- What is left behind the first k. -/
def Left (zs : List MsgR) (k : Nat) (s : ByteArray) : Prop := (∀ m ∈ zs, OkM m) ∧ bytesOf s = cat (zs.drop k) ∧ s.size ≤ 120000
theorem Said.left {zs : List MsgR} {s : ByteArray} (h : Said zs zs.length s) (hl : zs.length ≤ 20) : Left zs 0 s := by
  obtain ⟨h1, h2, h3⟩ := h
  rw [List.take_length] at h1 h2
  exact ⟨h1, by rw [List.drop_zero]; exact h2, by have : 6000 * zs.length ≤ 6000 * 20 := Nat.mul_le_mul_left _ hl; omega⟩
theorem Left.split {zs : List MsgR} {k : Nat} {s : ByteArray} (h : Left zs k s) (hk : k < zs.length) : ∃ t : ByteArray, s = said (zs.getD k default) ++ t ∧ bytesOf t = cat (zs.drop (k + 1)) ∧ t.size ≤ 120000 ∧ OkM (zs.getD k default) := by
  obtain ⟨h1, h2, h3⟩ := h
  have e : zs.drop k = zs.getD k default :: zs.drop (k + 1) := by rw [List.drop_eq_getElem_cons hk]; simp [List.getD, hk]
  rw [e] at h2
  have hc : cat (zs.getD k default :: zs.drop (k + 1)) = bytesOf (said (zs.getD k default)) ++ cat (zs.drop (k + 1)) := by simp [cat]
  rw [hc] at h2
  have hr : ∀ x ∈ cat (zs.drop (k + 1)), 0 ≤ x ∧ x < 256 := fun x hx => bytes_range s x (by rw [h2]; simp [hx])
  refine ⟨strOfNums (cat (zs.drop (k + 1))), ba_bytesOf.1 ?_, bytes_str hr, ?_, h1 _ ?_⟩
  · rw [bytes_append, bytes_str hr, h2]
  · have := congrArg List.length h2
    rw [bytesOf_length, List.length_append] at this
    rw [strOfNums_size]; omega
  · rw [List.getD_eq_getElem?_getD, List.getElem?_eq_getElem hk]; exact List.getElem_mem hk
theorem many_left {zs : List MsgR} {k : Nat} {s t : ByteArray} {m : MsgR} {a : Int} (h : Left zs k s) (hk : k < zs.length) (hm : zs.getD k default = m) (ht : s = said m ++ t) (ht2 : bytesOf t = cat (zs.drop (k + 1))) (ha : ((said m).size : Int) = a) : Left zs (k + 1) (s.extract a.toNat s.size) := by
  have e : s.extract a.toNat s.size = t := by
    rw [← ha, Int.toNat_natCast, ht, ba_extract_append_right _ _ _ _ (Nat.le_refl _), Nat.sub_self, ba_size_append]
    exact ba_extract_all t _ (by omega)
  rw [e]
  exact ⟨h.1, ht2, by have := h.2.2; rw [ht, ba_size_append] at this; omega⟩
theorem take_succ_getD (zs : List MsgR) (k : Nat) (h : k < zs.length) : zs.take (k + 1) = zs.take k ++ [zs.getD k default] := by
  rw [List.take_succ_eq_append_getElem h]; simp [List.getD, h]
theorem Said.succ {zs : List MsgR} {k : Nat} {s : ByteArray} (h : Said zs k s) (hk : k < zs.length) (ho : OkM (zs.getD k default)) (hz : (said (zs.getD k default)).size ≤ 6000) : Said zs (k + 1) (s ++ said (zs.getD k default)) := by
  obtain ⟨h1, h2, h3⟩ := h
  refine ⟨fun m hm => ?_, ?_, by rw [ba_size_append]; omega⟩
  · rw [take_succ_getD zs k hk] at hm
    rcases List.mem_append.1 hm with hm | hm
    · exact h1 m hm
    · rw [List.mem_singleton.1 hm]; exact ho
  · rw [bytes_append, h2, take_succ_getD zs k hk]; simp [cat]
section
attribute [local go_sem ↓] exec_store_M exec_load_M
attribute [local go_sem] store_M load_M rowAt_row rowAt_new cell_row_ne cell_row33
set_option maxHeartbeats 4000000 in
set_option maxRecDepth 100000 in
theorem ServermsgMany_walk (A : Option Addr) (len cap : Nat) (zs : List MsgR) (W : World) (h1 : zs.length = len) (h2 : len ≤ cap) (h3 : cap ≤ maxLen) (h4 : ∀ m ∈ zs, m.Ok W) (h5 : ∀ i, i < zs.length → ∃ ad, A = some ad ∧ ∀ o u, (zs.getD i default).row[o]? = some u → W.cell? (ad.add (i * 19 + o)) = some u) :
    Calls Try.prog 4 #[.slice A len cap] W fun e W' => e = .returned (.bool true) ∧ Below W.heap.size W W' := by
  subst h1
  have H4 := Lib.hid h4
  have H5 := Lib.hid h5
  clear h4 h5
  by_cases hl : 20 < zs.length
  · have hlb : decide ((zs.length : Int) > 20) = true := decide_eq_true (by omega)
    have hlb2 : decide (20 < zs.length) = true := decide_eq_true hl
    go_enter Try.func4, Try.ntmps4
    go_wp2_with fail
    refine (X.miradorlaw23_works.calls true W X.miradorlaw23_works.at0).mono ?_
    rintro e W1 ⟨rfl, hb⟩
    have HB1 := Lib.hid hb
    clear hb
    go_wp2_with fail
    go_ret
    exact ⟨rfl, HB1.out⟩
  · have hlb : decide ((zs.length : Int) > 20) = false := decide_eq_false (by omega)
    have hlb2 : decide (20 < zs.length) = false := decide_eq_false hl
    go_enter Try.func4, Try.ntmps4
    go_wp2_with fail
    refine (X.miradorlaw23_works.calls true W X.miradorlaw23_works.at0).mono ?_
    rintro e W1 ⟨rfl, hb⟩
    have HB1 := Lib.hid hb
    clear hb
    go_wp2_with fail
    go_loopw [4, 5] (fun p4 p5 wr => ∃ (k : Nat) (s : ByteArray), k ≤ zs.length ∧ p5 = .int .i64 k ∧ p4 = .string s ∧ Hid (Said zs k s) ∧ Hid (Below W.heap.size W wr)) (fun _ p5 _ => zs.length - (intOf p5).toNat)
    case atStart => exact ⟨0, _, Nat.zero_le _, rfl, rfl, Lib.hid (Said.zero zs), HB1⟩
    case round =>
      obtain ⟨k, s, hk, rfl, rfl, HS, HB⟩ := hrel
      by_cases hkl : k < zs.length
      · have c0 : decide ((k : Int) < (zs.length : Int)) = true := decide_eq_true (by omega)
        have c1 : decide (k < zs.length) = true := decide_eq_true hkl
        obtain ⟨ad, rfl, hcell⟩ := H5.out k hkl
        have hok := H4.out (zs.getD k default) (by rw [List.getD_eq_getElem?_getD, List.getElem?_eq_getElem hkl]; exact List.getElem_mem hkl)
        obtain ⟨m, hm⟩ : ∃ m, zs.getD k default = m := ⟨_, rfl⟩
        rw [hm] at hcell hok
        have HM := Lib.hid hm
        have z18 := pw_cell_below HB.out (cell_form (a := ad.add (k * 19)) (j := 18) (by rw [Go.Deep.add_add]; exact hcell 18 _ rfl))
        have hel := el_of (a := ad.add (k * 19)) (row := m.row) (fun o u ho => by rw [Go.Deep.add_add]; exact pw_cell_below HB.out (hcell o u ho))
        have hel1 : elOk _ (ad.add (k * 19)) 19 = true := hel.1
        have hel2 : elAt _ (ad.add (k * 19)) 19 = #[.int .i64 m.k, .bool m.fl, .int .i64 m.n, .int .i64 m.r0, .int .i64 m.r1, .int .i64 m.r2, .int .i64 m.r3, .int .i64 m.f0, .int .i64 m.f1, .bool m.b0, .bool m.b1, .int .i64 m.f2, .int .i64 m.f3, .int .i64 m.f4, .int .i64 m.f5, .int .i64 m.f6, .int .i64 m.f7, .slice m.A m.xs.length m.c, .string m.x] := hel.2
        clear hel
        have HO := Lib.hid hok
        have HE := Lib.hid hcell
        have p0 : (0 : Int) ≤ (k : Int) := by omega
        have p1 : (k : Int) < (zs.length : Int) := by omega
        clear hcell hok hm
        by_cases hx : 5000 < m.x.size
        · as_aux_lemma =>
          have c2 : decide ((m.x.size : Int) > 5000) = true := decide_eq_true (by omega)
          have c3 : decide (5000 < m.x.size) = true := decide_eq_true hx
          go_wp2_with fail
          go_ret
          exact ⟨rfl, HB.out⟩
        · have c2 : decide ((m.x.size : Int) > 5000) = false := decide_eq_false (by omega)
          have c3 : decide (5000 < m.x.size) = false := decide_eq_false hx
          obtain ⟨p, e1, e2, e3⟩ := say_back m.k m.n m.fl m.r0 m.r1 m.r2 m.r3 m.f0 m.f1 m.b0 m.b1 m.f2 m.f3 m.f4 m.f5 m.f6 m.f7 m.xs m.x ⟨#[]⟩ (by omega) (Nat.zero_le _)
          go_wp2_with fail
          refine (X.servermsg_Say.calls m.k m.fl m.n m.r0 m.r1 m.r2 m.r3 m.f0 m.f1 m.b0 m.b1 m.f2 m.f3 m.f4 m.f5 m.f6 m.f7 m.A m.c m.xs m.x p.1 p.2 _ (Kd.C_below HO.out.c_ HB.out) HO.out.cc e1).mono ?_
          rintro e W2 ⟨rfl, hb⟩
          have HB2 := Lib.hid (HB.out.trans (Below.mono hb HB.out.size))
          have HSD := Lib.hid (said_of (show saidF m = some p from e1))
          have HE1 := Lib.hid e1
          have HE2 := Lib.hid e2
          clear hb e3 hel1 hel2 z18 e1 e2
          by_cases h0 : p.2 = 0
          · have d0 : (p.2 != 0) = false := by simpa using h0
            have hz : s.size + p.1.size ≤ 9223372036854775807 := by have := HS.out.2.2; have := HE2.out; omega
            go_wp2_with fail
            have hs := HSD.out
            have hm := HM.out
            have he : saidF m = some p := HE1.out
            have hz2 := HE2.out
            refine ⟨⟨k + 1, s ++ p.1, by omega, by push_cast; rfl, rfl, Lib.hid ?_, HB2⟩, by show zs.length - ((k : Int) + 1).toNat < zs.length - ((k : Int)).toNat; omega⟩
            rw [← hs, ← hm]
            exact HS.out.succ hkl (by rw [hm]; exact ⟨by omega, by rw [hs, he]; exact congrArg some (Prod.ext rfl h0)⟩) (by rw [hm, hs]; exact hz2)
          · as_aux_lemma =>
            have d0 : (p.2 != 0) = true := by simpa using h0
            go_wp2_with fail
            go_ret
            exact ⟨rfl, HB2.out⟩
      · have c0 : decide ((k : Int) < (zs.length : Int)) = false := decide_eq_false (by omega)
        have c1 : decide (k < zs.length) = false := decide_eq_false hkl
        obtain rfl : k = zs.length := by omega
        have HL := Lib.hid (HS.out.left (by omega))
        clear HS hkl hk
        go_wp2_with fail
        clear c0 c1
        go_loopw [4, 8] (fun p4 p8 wr => ∃ (k : Nat) (s : ByteArray), k ≤ zs.length ∧ p8 = .int .i64 k ∧ p4 = .string s ∧ Hid (Left zs k s) ∧ Hid (Below W.heap.size W wr)) (fun _ p8 _ => zs.length - (intOf p8).toNat)
        case atStart => exact ⟨0, _, Nat.zero_le _, rfl, rfl, HL, HB⟩
        case round =>
          clear HL HB
          obtain ⟨k, s, hk, rfl, rfl, HL, HB⟩ := hrel
          by_cases hkl : k < zs.length
          · have c0 : decide ((k : Int) < (zs.length : Int)) = true := decide_eq_true (by omega)
            have c1 : decide (k < zs.length) = true := decide_eq_true hkl
            obtain ⟨t, ht, ht2, ht3, hok⟩ := HL.out.split hkl
            obtain ⟨ad, rfl, hcell⟩ := H5.out k hkl
            obtain ⟨m, hm⟩ : ∃ m, zs.getD k default = m := ⟨_, rfl⟩
            rw [hm] at hcell hok ht
            obtain ⟨p, e1, e2, e3⟩ := say_back m.k m.n m.fl m.r0 m.r1 m.r2 m.r3 m.f0 m.f1 m.b0 m.b1 m.f2 m.f3 m.f4 m.f5 m.f6 m.f7 m.xs m.x t hok.1 (by omega)
            have es : some p = some (said m, 0) := e1.symm.trans hok.2
            obtain rfl := Option.some.inj es
            obtain ⟨n0, v, e4, e5, e6, e7⟩ := e3 rfl
            dsimp only at e2 n0 e4
            rw [← ht] at e4
            have hsz : s.size = (said m).size + t.size := by rw [ht, ba_size_append]
            have HT := Lib.hid ht
            have HT2 := Lib.hid ht2
            have HV := Lib.hid (And.intro n0 (And.intro e5 (And.intro e6 e7)))
            have HM := Lib.hid hm
            have HOK := Lib.hid hok
            have HSZ := Lib.hid hsz
            have HSZ2 := Lib.hid e2
            clear ht ht2 hm hok e1 e2 e3 n0 e5 e6 e7 hsz es
            have z0 := pw_cell_below HB.out (hcell 0 _ rfl)
            rw [Nat.add_zero] at z0
            have z2 := pw_cell_below HB.out (cell_form (a := ad.add (k * 19)) (j := 2) (by rw [Go.Deep.add_add]; exact hcell 2 _ rfl))
            have z18 := pw_cell_below HB.out (cell_form (a := ad.add (k * 19)) (j := 18) (by rw [Go.Deep.add_add]; exact hcell 18 _ rfl))
            obtain ⟨a, ha⟩ : ∃ a : Int, ((said m).size : Int) = a := ⟨_, rfl⟩
            rw [ha] at e4
            have HA := Lib.hid ha
            clear ha
            have p0 : (0 : Int) ≤ (k : Int) := by omega
            have p1 : (k : Int) < (zs.length : Int) := by omega
            go_wp2_with fail
            refine (X.servermsg_Parse.calls s _ _ _ _ _ _ _ _ _ _ _ _ _ _ _ _ _ _ _ _ _ _ e4).mono ?_
            rintro e W2 ⟨v17, rfl, hR, hb⟩
            obtain ⟨A17, c17, rfl⟩ := Kd.R_slice hR
            have HB2 := Lib.hid (HB.out.trans (Below.mono hb HB.out.size))
            obtain ⟨n0, e5, e6, e7⟩ := HV.out
            have g0 : W2.heap.size ≠ 0 ∨ True := .inr trivial
            have hlt : (ad.add (k * 19)).block < wr.heap.size := World.block_lt_of_cell? _ _ z0
            have hne : (ad.add (k * 19)).block ≠ W2.heap.size := by have := hb.size; omega
            have hbz := below_alloc (Below.refl W2.heap.size W2) (.cells #[.int .i64 0, .bool false, .int .i64 0, .int .i64 0, .int .i64 0, .int .i64 0, .int .i64 0, .int .i64 0, .int .i64 0, .bool false, .bool false, .int .i64 0, .int .i64 0, .int .i64 0, .int .i64 0, .int .i64 0, .int .i64 0, .slice none 0 0, .string ⟨#[]⟩] 33)
            have x0 := pw_cell_below (hb.trans (Below.mono hbz hb.size)) z0
            have x2 := pw_cell_below (hb.trans (Below.mono hbz hb.size)) z2
            have x18 := pw_cell_below (hb.trans (Below.mono hbz hb.size)) z18
            have hrow := rowAt_new W2 #[.int .i64 0, .bool false, .int .i64 0, .int .i64 0, .int .i64 0, .int .i64 0, .int .i64 0, .int .i64 0, .int .i64 0, .bool false, .bool false, .int .i64 0, .int .i64 0, .int .i64 0, .int .i64 0, .int .i64 0, .int .i64 0, .slice none 0 0, .string ⟨#[]⟩] rfl
            obtain ⟨Wn, hWn⟩ : ∃ Y, (W2.alloc (.cells #[.int .i64 0, .bool false, .int .i64 0, .int .i64 0, .int .i64 0, .int .i64 0, .int .i64 0, .int .i64 0, .int .i64 0, .bool false, .bool false, .int .i64 0, .int .i64 0, .int .i64 0, .int .i64 0, .int .i64 0, .int .i64 0, .slice none 0 0, .string ⟨#[]⟩] 33)).setRow W2.heap.size #[.int .i64 v.1, .bool false, .int .i64 v.2.1, .int .i64 0, .int .i64 0, .int .i64 0, .int .i64 0, .int .i64 0, .int .i64 0, .bool false, .bool false, .int .i64 0, .int .i64 0, .int .i64 0, .int .i64 0, .int .i64 0, .int .i64 0, .slice A17 0 c17, .string v.2.2] = Y := ⟨_, rfl⟩
            have q0 : Wn.cell? (ad.add (k * 19)) = some (.int .i64 m.k) := by rw [← hWn, cell_row_ne (by exact hne)]; exact x0
            have q2 : Wn.cell? ⟨(ad.add (k * 19)).block, (ad.add (k * 19)).off + 2, none⟩ = some (.int .i64 m.n) := by rw [← hWn, cell_row_ne (by exact hne)]; exact x2
            have q18 : Wn.cell? ⟨(ad.add (k * 19)).block, (ad.add (k * 19)).off + 18, none⟩ = some (.string m.x) := by rw [← hWn, cell_row_ne (by exact hne)]; exact x18
            have y0 : Wn.cell? ⟨W2.heap.size, 0, none⟩ = some (.int .i64 m.k) := by rw [← hWn, cell_row33 hrow, ← e5]; rfl
            have y2 : Wn.cell? ⟨W2.heap.size, 2, none⟩ = some (.int .i64 v.2.1) := by rw [← hWn, cell_row33 hrow]; rfl
            have y18 : Wn.cell? ⟨W2.heap.size, 18, none⟩ = some (.string v.2.2) := by rw [← hWn, cell_row33 hrow]; rfl
            have HBn := Lib.hid (show Below W.heap.size W Wn from by rw [← hWn]; exact X.below_row (HB2.out.trans (Below.mono hbz HB2.out.size)) HB2.out.size _)
            clear x0 x2 x18 hbz hrow z0 z2 z18 hb hR hlt g0 hcell e4
            have ha0 : 1 ≤ a := by have := HA.out; omega
            have ha1 : a ≤ (s.size : Int) := by have := HA.out; have := HSZ.out; omega
            have d1 : decide (a < 1) = false := decide_eq_false (by omega)
            have d2 : decide (a > (s.size : Int)) = false := decide_eq_false (by omega)
            have d3 : decide ((s.size : Int) < a) = false := decide_eq_false (by omega)
            have d4 : (0 : Int) ≤ a := by omega
            by_cases h5 : m.k = 5
            · as_aux_lemma =>
              rw [e7 h5] at y18
              have b5 : (m.k == 5) = true := by simpa using h5
              have b6 : (m.k == 6) = false := by simp [h5]
              clear h5 e5 e6 e7 n0 HV
              go_wp2_with fail
              try rw [hWn]
              clear hWn
              go_quiet (fail)
              go_wp2_with fail
              refine ⟨⟨k + 1, s.extract a.toNat s.size, by omega, by push_cast; rfl, rfl, Lib.hid ?_, Lib.hid (pw_below_drewN HBn.out _)⟩, by show zs.length - ((k : Int) + 1).toNat < zs.length - ((k : Int)).toNat; omega⟩
              exact many_left HL.out hkl HM.out HT.out HT2.out HA.out
            · by_cases h6 : m.k = 6
              · as_aux_lemma =>
                rw [e6 h6] at y2
                have b5 : (m.k == 5) = false := by simp [h6]
                have b6 : (m.k == 6) = true := by simpa using h6
                clear h5 h6 e5 e6 e7 n0 HV
                go_wp2_with fail
                try rw [hWn]
                clear hWn
                go_quiet (fail)
                go_wp2_with fail
                refine ⟨⟨k + 1, s.extract a.toNat s.size, by omega, by push_cast; rfl, rfl, Lib.hid ?_, Lib.hid (pw_below_drewN HBn.out _)⟩, by show zs.length - ((k : Int) + 1).toNat < zs.length - ((k : Int)).toNat; omega⟩
                exact many_left HL.out hkl HM.out HT.out HT2.out HA.out
              · as_aux_lemma =>
                have b5 : (m.k == 5) = false := by simpa using h5
                have b6 : (m.k == 6) = false := by simpa using h6
                clear h5 h6 e5 e6 e7 n0 HV
                go_wp2_with fail
                try rw [hWn]
                clear hWn
                go_quiet (fail)
                go_wp2_with fail
                refine ⟨⟨k + 1, s.extract a.toNat s.size, by omega, by push_cast; rfl, rfl, Lib.hid ?_, Lib.hid (pw_below_drewN HBn.out _)⟩, by show zs.length - ((k : Int) + 1).toNat < zs.length - ((k : Int)).toNat; omega⟩
                exact many_left HL.out hkl HM.out HT.out HT2.out HA.out
          · have c0 : decide ((k : Int) < (zs.length : Int)) = false := decide_eq_false (by omega)
            have c1 : decide (k < zs.length) = false := decide_eq_false hkl
            have hs : s = ⟨#[]⟩ := by
              have := HL.out.2.1
              rw [List.drop_of_length_le (by omega)] at this
              exact ba_bytesOf.1 this
            subst hs
            clear hkl
            go_wp2_with fail
            go_ret
            exact ⟨by simp, HB.out⟩
end
end Go.Proofs.Ytpackckoblpbfaa.H
