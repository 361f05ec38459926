/- PlainGlue: colours one behind the other are their bytes one behind the other; values of colours that are left are the same values. No condition. -/
-- OPEN 0 Go.Proofs.Ytloigmonfbfieaa.RC.open_format fa fb fc fd fe ff fg fh fi fj : ga gb ge gf gg gh gi gj
import Derived.Test.YtloigmonfbfieaaPL2
import Derived.Test.YtloigmonfbfieaaRF
import Derived.Test.YtloigmonfbfieaaXx14
import Derived.Test.YtloigmonfbfieaaXx13
namespace Go.Proofs.Ytloigmonfbfieaa.H
open Go.RowKit Go.Proofs.YtloigmonfbfieaaW.PrintWords Go.Proofs.YtloigmonfbfieaaW.PrintLast Go.Proofs.YtloigmonfbfieaaW.PrintMore Go.Proofs.Ytloigmonfbfieaa.B Go.Proofs.Ytloigmonfbfieaa.O Go.Proofs.Ytloigmonfbfieaa.F
set_option linter.unusedVariables false
set_option linter.unusedSimpArgs false
theorem PlainGlue_j0 (k : Nat) {n d : Int} {tr : Bool} {m1 m2 m3 s1 s2 s3 : Int} (hV : Vd n d tr m1 m2 m3 s1 s2 s3) (bg : Bool) (hb : X.format_Valid.f n d bg tr m1 m2 m3 s1 s2 s3 = some true) (a c : List Int) (ha : a.length ≤ 400) (hc : c.length ≤ 400) (hk : 2000 ≤ k) : X.miradorlaw16_PlainGlue.j0 (k + 3) a c true false n d bg tr m1 m2 m3 s1 s2 s3 = some true := by
  have hbits := hV.bits
  obtain ⟨z, hz⟩ : ∃ z : Nat, n = 8 * z := ⟨(n / 8).toNat, by omega⟩
  have hl : (([] : List Int) ++ a ++ c).length ≤ 800 := by simp; omega
  have hall : ([] : List Int) ++ a ++ c = a ++ c := rfl
  have e1 := raw_ok hV bg hb z hz (k + 2) (by omega) a (by omega)
  have e2 := raw_ok hV bg hb z hz (k + 2) (by omega) c (by omega)
  have e3 := raw_ok hV bg hb z hz (k + 2) (by omega) (a ++ c) (by rw [hall] at hl; omega)
  have e3' := raw_ok hV bg hb z hz k (by omega) (a ++ c) (by rw [hall] at hl; omega)
  have hq : X.miradorref16_Quants.f (k + 2) n d bg tr m1 m2 m3 s1 s2 s3 (a ++ c) = some ((a ++ c).map (fun q => qI m1 m2 m3 q)) := by
    unfold X.miradorref16_Quants.f
    refine bind_eq (rValues_f n d bg tr m1 m2 m3 s1 s2 s3 (fun c => (valN m1 m2 m3 s1 s2 s3 c : Int)) (fun c => rvalN_f hV bg c) _ (by rw [hall] at hl; omega) _ (by rw [hall] at hl; omega)) ?_
    refine bind_eq (rColours_f n d bg tr m1 m2 m3 s1 s2 s3 _ (fun c => rcolI_f hV bg c) _ (by rw [hall] at hl; rw [List.length_map]; omega) _ (by rw [hall] at hl; rw [List.length_map]; omega)) ?_
    rw [List.map_map]
    refine congrArg some (List.map_congr_left (fun q _ => ?_))
    exact colI_val hV q
  obtain ⟨z2, _, hz2, es⟩ := size_f hV bg hb
  obtain rfl : z2 = z := by omega
  have l1 : (strOfNums (a.flatMap (fun c => putL bg (valN m1 m2 m3 s1 s2 s3 c : Int) z2))).size = a.length * z2 := by rw [strOfNums_size, flat_z]
  have l2 : (strOfNums (c.flatMap (fun c => putL bg (valN m1 m2 m3 s1 s2 s3 c : Int) z2))).size = c.length * z2 := by rw [strOfNums_size, flat_z]
  have l3 : (strOfNums ((a ++ c).flatMap (fun c => putL bg (valN m1 m2 m3 s1 s2 s3 c : Int) z2))).size = (a ++ c).length * z2 := by rw [strOfNums_size, flat_z]
  have x1 : a.length * z2 ≤ 400 * 4 := Nat.mul_le_mul ha (by omega)
  have x2 : c.length * z2 ≤ 400 * 4 := Nat.mul_le_mul hc (by omega)
  have x3 : (a ++ c).length * z2 ≤ 800 * 4 := Nat.mul_le_mul (by rw [List.length_append]; omega) (by omega)
  have eg : strOfNums (a.flatMap (fun c => putL bg (valN m1 m2 m3 s1 s2 s3 c : Int) z2)) ++ strOfNums (c.flatMap (fun c => putL bg (valN m1 m2 m3 s1 s2 s3 c : Int) z2)) = strOfNums ((a ++ c).flatMap (fun c => putL bg (valN m1 m2 m3 s1 s2 s3 c : Int) z2)) := by rw [str_append, List.flatMap_append]
  have ew : wrap64 (((a ++ c).length : Int) * (z2 : Int)) = (((a ++ c).length * z2 : Nat) : Int) := by rw [← Int.natCast_mul, w64 (by omega) (by omega)]
  simp only [X.miradorlaw16_PlainGlue.j0]
  rw [if_neg (by decide), if_pos (by simp; omega)]
  refine bind_eq rfl ?_
  rw [if_pos (by simp; omega)]
  refine bind_eq rfl ?_
  rw [hall]
  refine bind_eq hq ?_
  refine bind_eq e1 ?_
  refine bind_eq e2 ?_
  rw [if_pos (by omega)]
  refine bind_eq e3 ?_
  refine bind_eq (Values_f n d bg tr m1 m2 m3 s1 s2 s3 (fun c => (valN m1 m2 m3 s1 s2 s3 c : Int)) (fun c => valN_f hV bg c hb) _ (by rw [hall] at hl; omega)) ?_
  rw [if_pos (by rw [List.length_map])]
  refine bind_eq e3 ?_
  refine bind_eq es ?_
  rw [ew, eg, l3, show ((strOfNums ((a ++ c).flatMap (fun c => putL bg (valN m1 m2 m3 s1 s2 s3 c : Int) z2))).toList == (strOfNums ((a ++ c).flatMap (fun c => putL bg (valN m1 m2 m3 s1 s2 s3 c : Int) z2))).toList) = true by simp, show ((((a ++ c).length * z2 : Nat) : Int) == (((a ++ c).length * z2 : Nat) : Int)) = true by simp]
  simp only [X.miradorlaw16_PlainGlue.j1]
  by_cases g1 : m1 > 255
  · rw [if_pos g1]; simp only [X.miradorlaw16_PlainGlue.j2, if_true]
  rw [if_neg g1]
  by_cases g2 : m2 > 255
  · rw [if_pos g2]; simp only [X.miradorlaw16_PlainGlue.j2, if_true]
  rw [if_neg g2]
  by_cases g3 : m3 > 255
  · rw [decide_eq_true g3]; simp only [X.miradorlaw16_PlainGlue.j2, if_true]
  rw [decide_eq_false g3]
  have e4 := raw_ok hV bg hb z2 hz k (by omega) ((a ++ c).map (fun q => qI m1 m2 m3 q)) (by rw [hall] at hl; rw [List.length_map]; omega)
  have e5 : ((a ++ c).map (fun q => qI m1 m2 m3 q)).flatMap (fun c => putL bg (valN m1 m2 m3 s1 s2 s3 c : Int) z2) = (a ++ c).flatMap (fun c => putL bg (valN m1 m2 m3 s1 s2 s3 c : Int) z2) := by
    rw [List.flatMap_map]
    congr 1
    funext q
    show putL bg (valN m1 m2 m3 s1 s2 s3 (qI m1 m2 m3 q) : Int) z2 = _
    rw [valN_left hV bg hb (by omega) (by omega) (by omega) q]
  rw [e5] at e4
  simp only [X.miradorlaw16_PlainGlue.j2]
  rw [if_neg (by decide), if_pos trivial, if_pos trivial, if_pos trivial]
  refine bind_eq e4 ?_
  refine bind_eq e3' ?_
  simp
theorem PlainGlue_pure (n d : Int) (bg tr : Bool) (m1 m2 m3 s1 s2 s3 : Int) (a c : List Int) : X.miradorlaw16_PlainGlue.f 3003 n d bg tr m1 m2 m3 s1 s2 s3 a c = some true := by
  obtain ⟨b, v1, v2, v3⟩ := valid_f 3003 (by omega) n d bg tr m1 m2 m3 s1 s2 s3
  unfold X.miradorlaw16_PlainGlue.f
  refine bind_eq (works_at _ (by omega)) ?_
  rw [if_pos rfl]
  by_cases h1 : (a.length : Int) > 400
  · rw [if_pos h1]
    simp only [X.miradorlaw16_PlainGlue.j0, if_true]
  · rw [if_neg h1]
    by_cases h2 : (c.length : Int) > 400
    · rw [if_pos h2]
      simp only [X.miradorlaw16_PlainGlue.j0, if_true]
    · rw [if_neg h2]
      refine bind_eq v1 ?_
      cases b with
      | false => simp only [X.miradorlaw16_PlainGlue.j0, Bool.not_false, if_true]
      | true => exact PlainGlue_j0 3000 (v3.1 rfl) bg v1 a c (by omega) (by omega) (by omega)
theorem PlainGlue_walk (n d : Int) (bg tr : Bool) (m1 m2 m3 s1 s2 s3 : Int) (A : Option Addr) (len cap : Nat) (z : List Int) (A2 : Option Addr) (len2 cap2 : Nat) (z2 : List Int) (W : World) (h0 : (Lit.int .i64 n).wf = true) (h1 : (Lit.int .i64 d).wf = true) (h4 : (Lit.int .i64 m1).wf = true) (h5 : (Lit.int .i64 m2).wf = true) (h6 : (Lit.int .i64 m3).wf = true) (h7 : (Lit.int .i64 s1).wf = true) (h8 : (Lit.int .i64 s2).wf = true) (h9 : (Lit.int .i64 s3).wf = true) (hzz : (A = none ∧ len = 0 ∧ cap = 0 ∧ z = []) ∨ ∃ x, A = some x ∧ len ≤ cap ∧ cap ≤ maxLen ∧ z.length = cap ∧ (∀ i, i < z.length → W.cell? (x.add i) = some (.int .i64 (z.getD i 0))) ∧ ∀ n ∈ z, (Lit.int .i64 n).wf = true) (hyz : len * 8 ≤ 140737488351232) (hzz2 : (A2 = none ∧ len2 = 0 ∧ cap2 = 0 ∧ z2 = []) ∨ ∃ x, A2 = some x ∧ len2 ≤ cap2 ∧ cap2 ≤ maxLen ∧ z2.length = cap2 ∧ (∀ i, i < z2.length → W.cell? (x.add i) = some (.int .i64 (z2.getD i 0))) ∧ ∀ n ∈ z2, (Lit.int .i64 n).wf = true) (hyz2 : len2 * 8 ≤ 140737488351232) :
    Calls Try.prog 5 #[.agg #[.int .i64 n, .int .i64 d, .bool bg, .bool tr, .int .i64 m1, .int .i64 m2, .int .i64 m3, .int .i64 s1, .int .i64 s2, .int .i64 s3], .slice A len cap, .slice A2 len2 cap2] W fun e W' => e = .returned (.bool true) ∧ Below W.heap.size W W' := by
  obtain ⟨l, rfl, hr, hm, hwf, hcap⟩ := ReadsInt.ofRowC hzz
  obtain ⟨l2, rfl, hr2, hm2, hwf2, hcap2⟩ := ReadsInt.ofRowC hzz2
  exact X.miradorlaw16_PlainGlue.calls1 3003 n d bg tr m1 m2 m3 s1 s2 s3 A cap l A2 cap2 l2 true W (Kd.C_of_reads (d := (0 : Int)) (h1 := fun _ => rfl) hr) hcap (Kd.C_of_reads (d := (0 : Int)) (h1 := fun _ => rfl) hr2) hcap2 rfl (PlainGlue_pure n d bg tr m1 m2 m3 s1 s2 s3 l l2)
end Go.Proofs.Ytloigmonfbfieaa.H
