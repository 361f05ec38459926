/- FormatBack: what is put is got again: a format's bytes, a value, and, of a colour's value, as few bytes as it needs. No condition. -/
-- OPEN 0 Go.Proofs.Ytaielfghgmghgaa.RC.open_format fa fb fc fd fe ff fg fh fi fj : ga gb ge gf gg gh gi gj
import Derived.Test.YtaielfghgmghgaaFM12
import Derived.Test.YtaielfghgmghgaaRF
import Derived.Test.YtaielfghgmghgaaXx16
namespace Go.Proofs.Ytaielfghgmghgaa.H
open Go.RowKit Go.Proofs.YtaielfghgmghgaaW.PrintWords Go.Proofs.YtaielfghgmghgaaW.PrintLast Go.Proofs.YtaielfghgmghgaaW.PrintMore Go.Proofs.Ytaielfghgmghgaa.B Go.Proofs.Ytaielfghgmghgaa.O Go.Proofs.Ytaielfghgmghgaa.F
set_option linter.unusedVariables false
set_option linter.unusedSimpArgs false
theorem FormatBack_j1 (k : Nat) (hk : 100 ≤ k) {n d : Int} {tr : Bool} {m1 m2 m3 s1 s2 s3 : Int} (hv : Vd n d tr m1 m2 m3 s1 s2 s3) (bg : Bool) (hb : X.format_Valid.f n d bg tr m1 m2 m3 s1 s2 s3 = some true) (c : Int) (t : ByteArray) (ht : t.size ≤ 60) :
    X.miradorlaw13_FormatBack.j1 (k + 1) c t true false n d bg tr m1 m2 m3 s1 s2 s3 = some true := by
  have hbits := hv.bits
  obtain ⟨z, z4, hz8, e1⟩ := put_all hv bg hb k (by omega) c
  obtain ⟨y, q, y4, y1, hc, hcc⟩ := compact_f hv bg hb
  have q8 : q ≤ 8 := by omega
  have ev := value_f hv bg c hb
  have evv : ((plN (cp c 0) m1 s1 + plN (cp c 1) m2 s2 + plN (cp c 2) m3 s3 : Nat) : Int) = (valN m1 m2 m3 s1 s2 s3 c : Int) := rfl
  rw [evv] at ev
  have e3 := cput_all hv bg hb k (by omega) (valN m1 m2 m3 s1 s2 s3 c : Int) y q y4 q8 hc
  have hvl := valN_le hv c
  have hal := allN_lt hv
  have hbk := back_val hv bg c t y q hcc
  have hbn := back_num bg c z t
  obtain ⟨z', z4', hz8', esz⟩ := size_f hv bg hb
  obtain rfl : z' = z := by omega
  have lp : (strOfNums (if bg = true then (leB c z').reverse else leB c z')).size = z' := by rw [strOfNums_size, put_length]
  have lc : (strOfNums (if bg = true then (leB (cutI n (valN m1 m2 m3 s1 s2 s3 c : Int) q) y).reverse else leB (cutI n (valN m1 m2 m3 s1 s2 s3 c : Int) q) y)).size = y := by rw [strOfNums_size, put_length]
  have a1 := ba_size_append (strOfNums (if bg = true then (leB c z').reverse else leB c z')) t
  have a2 := ba_size_append (strOfNums (if bg = true then (leB (cutI n (valN m1 m2 m3 s1 s2 s3 c : Int) q) y).reverse else leB (cutI n (valN m1 m2 m3 s1 s2 s3 c : Int) q) y)) t
  have eg : X.format_Get.f k n d bg tr m1 m2 m3 s1 s2 s3 (strOfNums (if bg = true then (leB c z').reverse else leB c z') ++ t) = some (c % 256 ^ z', 0) := by
    obtain ⟨z2, _, h2, e⟩ := Get_f hv hb k (by omega) (strOfNums (if bg = true then (leB c z').reverse else leB c z') ++ t) (by omega)
    obtain rfl : z2 = z' := by omega
    rw [e, if_neg (by omega), hbn]
  have ec := CGet_f hb k (by omega) y q y4 hc (strOfNums (if bg = true then (leB (cutI n (valN m1 m2 m3 s1 s2 s3 c : Int) q) y).reverse else leB (cutI n (valN m1 m2 m3 s1 s2 s3 c : Int) q) y) ++ t) (by omega) (by omega)
  rw [hbk] at ec
  have eand := and_bits hbits c
  have hpow : (256 : Int) ^ z' = 2 ^ n.toNat := by rw [hz8, show (8 * (z' : Int)).toNat = 8 * z' by omega, Int.pow_mul]; rfl
  generalize (strOfNums (if bg = true then (leB (cutI n (valN m1 m2 m3 s1 s2 s3 c : Int) q) y).reverse else leB (cutI n (valN m1 m2 m3 s1 s2 s3 c : Int) q) y)) = C at *
  generalize (strOfNums (if bg = true then (leB c z').reverse else leB c z')) = P at *
  simp only [X.miradorlaw13_FormatBack.j1]
  rw [if_neg (by decide), if_pos (by omega)]
  refine bind_eq e1 ?_
  rw [if_pos (by omega)]
  refine bind_eq eg ?_
  refine bind_eq ev ?_
  refine bind_eq e3 ?_
  rw [if_pos (by omega)]
  refine bind_eq ec ?_
  refine bind_eq hc ?_
  refine (if_pos trivial).trans ?_
  refine (if_pos (by show c % 256 ^ z' = _; rw [eand, hpow])).trans ?_
  refine (if_pos rfl).trans ?_
  refine (if_pos rfl).trans ?_
  refine (if_pos rfl).trans ?_
  refine bind_eq e1 ?_
  refine bind_eq esz ?_
  refine (if_pos (by omega)).trans ?_
  refine bind_eq e3 ?_
  refine (if_pos (show (C.size : Int) = (y : Int) by omega)).trans ?_
  refine (if_pos (by omega)).trans ?_
  rw [shl_one hbits]
  refine congrArg some (decide_eq_true ?_)
  have : ((valN m1 m2 m3 s1 s2 s3 c : Nat) : Int) < ((2 ^ n.toNat : Nat) : Int) := by omega
  push_cast at this
  exact this
theorem FormatBack_pure (n d : Int) (bg tr : Bool) (m1 m2 m3 s1 s2 s3 : Int) (c : Int) (t : ByteArray) :
    X.miradorlaw13_FormatBack.f 200 n d bg tr m1 m2 m3 s1 s2 s3 c t = some true := by
  obtain ⟨b, v1, v2, v3⟩ := valid_f 200 (by omega) n d bg tr m1 m2 m3 s1 s2 s3
  unfold X.miradorlaw13_FormatBack.f
  refine bind_eq X.miradorlaw13_works.at0 ?_
  rw [if_pos rfl]
  by_cases h60 : (t.size : Int) > 60
  · rw [if_pos h60]
    simp only [X.miradorlaw13_FormatBack.j0, if_true]
  · rw [if_neg h60]
    refine bind_eq v1 ?_
    cases b with
    | false => simp only [X.miradorlaw13_FormatBack.j0, Bool.not_false, if_true]
    | true =>
      have hv := v3.1 rfl
      have hbv := bytes_valid hv bg
      have hps := parse_back hv bg v1 t (by omega)
      have hj := FormatBack_j1 198 (by omega) hv bg v1 c t (by omega)
      have hsz : (strOfNums (bytesL n d bg tr m1 m2 m3 s1 s2 s3)).size = 16 := by rw [strOfNums_size]; rfl
      simp only [X.miradorlaw13_FormatBack.j0]
      rw [if_neg (by decide)]
      refine bind_eq hbv ?_
      rw [if_pos (by omega)]
      refine bind_eq hps ?_
      rw [if_neg (by simp)]
      rw [if_pos rfl]
      refine bind_eq hbv ?_
      rw [hsz]
      exact hj
theorem FormatBack_walk (n d : Int) (bg tr : Bool) (m1 m2 m3 s1 s2 s3 : Int) (c : Int) (t : ByteArray) (W : World) (h0 : (Lit.int .i64 n).wf = true) (h1 : (Lit.int .i64 d).wf = true) (h4 : (Lit.int .i64 m1).wf = true) (h5 : (Lit.int .i64 m2).wf = true) (h6 : (Lit.int .i64 m3).wf = true) (h7 : (Lit.int .i64 s1).wf = true) (h8 : (Lit.int .i64 s2).wf = true) (h9 : (Lit.int .i64 s3).wf = true) (hc : (Lit.int .i64 c).wf = true) (ht : t.size ≤ 140737488351232) :
    Calls Try.prog 7 #[.agg #[.int .i64 n, .int .i64 d, .bool bg, .bool tr, .int .i64 m1, .int .i64 m2, .int .i64 m3, .int .i64 s1, .int .i64 s2, .int .i64 s3], .int .i64 c, .string t] W fun e W' => e = .returned (.bool true) ∧ Below W.heap.size W W' :=
  X.miradorlaw13_FormatBack.calls1 200 n d bg tr m1 m2 m3 s1 s2 s3 c t true W rfl (FormatBack_pure n d bg tr m1 m2 m3 s1 s2 s3 c t)
end Go.Proofs.Ytaielfghgmghgaa.H
