/- PlainBack: what is written is read again: what is left of the colours, whatever stands behind; with a byte less more is needed. No condition. -/
-- OPEN 0 Go.Proofs.Ytloigmonfbfieaa.RC.open_format fa fb fc fd fe ff fg fh fi fj : ga gb ge gf gg gh gi gj
import Derived.Test.YtloigmonfbfieaaPL2
import Derived.Test.YtloigmonfbfieaaFQ
import Derived.Test.YtloigmonfbfieaaRF
import Derived.Test.YtloigmonfbfieaaXx6
namespace Go.Proofs.Ytloigmonfbfieaa.H
open Go.RowKit Go.Proofs.YtloigmonfbfieaaW.PrintWords Go.Proofs.YtloigmonfbfieaaW.PrintLast Go.Proofs.YtloigmonfbfieaaW.PrintMore Go.Proofs.Ytloigmonfbfieaa.B Go.Proofs.Ytloigmonfbfieaa.O Go.Proofs.Ytloigmonfbfieaa.F
set_option linter.unusedVariables false
set_option linter.unusedSimpArgs false
theorem PlainBack_l0 {n d : Int} {tr : Bool} {m1 m2 m3 s1 s2 s3 : Int} (hV : Vd n d tr m1 m2 m3 s1 s2 s3) (bg : Bool) (hb : X.format_Valid.f n d bg tr m1 m2 m3 s1 s2 s3 = some true) (z : Nat) (hz : n = 8 * z) (w h : Int) (hf : fitsB true w h = true) (pix : List Int) (hp : pix.length ≤ 400) (hwh : (pix.length : Int) = w * h) (s : ByteArray) (hs : s.size = pix.length * z) :
    ∀ (q i k : Nat), i + q = pix.length → q + 1000 ≤ k → X.miradorlaw16_PlainBack.l0 k w h pix true s (pix.map (fun c => qI m1 m2 m3 c)) ((pix.length * z : Nat) : Int) (i : Int) n d bg tr m1 m2 m3 s1 s2 s3 = some true
  | 0, i, k, hi, hk => by
    obtain ⟨k, rfl⟩ : ∃ m, k = m + 1 := ⟨k - 1, by omega⟩
    have hbits := hV.bits
    have hpz : pix.length * z ≤ 400 * 4 := Nat.mul_le_mul hp (by omega)
    simp only [X.miradorlaw16_PlainBack.l0]
    rw [if_neg (by omega)]
    by_cases h0 : ((pix.length * z : Nat) : Int) = 0
    · rw [if_pos h0]
    · rw [if_neg h0]
      obtain ⟨m, hm⟩ : ∃ m, pix.length * z = m + 1 := ⟨pix.length * z - 1, by omega⟩
      have e1 : wrap64 (((pix.length * z : Nat) : Int) - 1) = (m : Int) := by rw [hm, w64 (by omega) (by omega)]; omega
      have hx : (s.extract 0 ((m : Int)).toNat).size = m := by rw [ba_size_extract, Int.toNat_natCast]; omega
      have ht : (w * h).toNat = pix.length := by omega
      rw [e1, if_pos (by omega), if_pos (by omega)]
      have er : rawOfS bg z (colI m1 m2 m3 s1 s2 s3) w h (s.extract 0 ((m : Int)).toNat) = ([], 0, 2) := by
        unfold rawOfS
        exact if_pos (by rw [hx, ht]; omega)
      refine bind_eq ((RawOf_f hV bg hb z hz w h hf _ (by omega) k (by omega)).trans (congrArg some er)) ?_
      simp
  | q + 1, i, k, hi, hk => by
    obtain ⟨k, rfl⟩ : ∃ m, k = m + 1 := ⟨k - 1, by omega⟩
    have e2 : wrap64 ((i : Int) + 1) = ((i + 1 : Nat) : Int) := by rw [w64 (by omega) (by omega)]; push_cast; rfl
    simp only [X.miradorlaw16_PlainBack.l0]
    rw [if_pos (by omega), if_pos (by omega), if_pos (by rw [List.length_map]; omega)]
    refine bind_eq (quant_f hV bg _ hb).1 ?_
    rw [if_pos (by rw [rd_nat _ i (by rw [List.length_map]; omega), rd_nat pix i (by omega), List.getElem_map]), e2]
    exact PlainBack_l0 hV bg hb z hz w h hf pix hp hwh s hs q (i + 1) k (by omega) (by omega)
theorem PlainBack_j0 {n d : Int} {tr : Bool} {m1 m2 m3 s1 s2 s3 : Int} (hV : Vd n d tr m1 m2 m3 s1 s2 s3) (bg : Bool) (hb : X.format_Valid.f n d bg tr m1 m2 m3 s1 s2 s3 = some true) (w h : Int) (hf : fitsB true w h = true) (pix : List Int) (hp : pix.length ≤ 400) (hwh : (pix.length : Int) = w * h) (t : ByteArray) (ht : t.size ≤ 400) (k : Nat) (hk : 3000 ≤ k) :
    X.miradorlaw16_PlainBack.j0 (k + 2) w h pix t true false n d bg tr m1 m2 m3 s1 s2 s3 = some true := by
  have hbits := hV.bits
  obtain ⟨z, hz⟩ : ∃ z : Nat, n = 8 * z := ⟨(n / 8).toNat, by omega⟩
  have hpz : pix.length * z ≤ 400 * 4 := Nat.mul_le_mul hp (by omega)
  have e1 := raw_ok hV bg hb z hz (k + 1) (by omega) pix (by omega)
  obtain ⟨R, hR⟩ : ∃ R, strOfNums (pix.flatMap (fun c => putL bg (valN m1 m2 m3 s1 s2 s3 c : Int) z)) = R := ⟨_, rfl⟩
  have hRs : R.size = pix.length * z := by rw [← hR, strOfNums_size, flat_z]
  have hRb : bytesOf R = pix.flatMap (fun c => putL bg (valN m1 m2 m3 s1 s2 s3 c : Int) z) := by rw [← hR, bytes_str (flat_range bg z (fun c => (valN m1 m2 m3 s1 s2 s3 c : Int)) pix)]
  rw [hR] at e1
  have hsz : (R ++ t).size = pix.length * z + t.size := by rw [ba_size_append, hRs]
  have htn : (w * h).toNat = pix.length := by omega
  have e2 := RawOf_f hV bg hb z hz w h hf (R ++ t) (by omega) (k + 1) (by omega)
  have e3 : rawOfS bg z (colI m1 m2 m3 s1 s2 s3) w h (R ++ t) = (pix.map (fun c => qI m1 m2 m3 c), ((pix.length * z : Nat) : Int), 0) := by
    unfold rawOfS
    rw [htn, if_neg (by omega), bytes_append, hRb, colsR_put bg z _ _ (fun c => valN_lt hV z hz c)]
    have : pix.map (fun c => colI m1 m2 m3 s1 s2 s3 (valN m1 m2 m3 s1 s2 s3 c : Int)) = pix.map (fun c => qI m1 m2 m3 c) := List.map_congr_left (fun c _ => colI_val hV c)
    rw [this]
  rw [e3] at e2
  obtain ⟨z2, _, hz2, es⟩ := size_f hV bg hb
  obtain rfl : z2 = z := by omega
  have ew : wrap64 (wrap64 (w * h) * (z2 : Int)) = ((pix.length * z2 : Nat) : Int) := by
    rw [← hwh, w64 (x := (pix.length : Int)) (by omega) (by omega), ← Int.natCast_mul, w64 (by omega) (by omega)]
  have hl := PlainBack_l0 hV bg hb z2 hz w h hf pix hp hwh R hRs pix.length 0 k (by omega) (by omega)
  simp only [X.miradorlaw16_PlainBack.j0]
  rw [if_neg (by decide)]
  refine bind_eq e1 ?_
  rw [if_pos (by omega)]
  refine bind_eq e2 ?_
  rw [if_pos (by rw [List.length_map]), if_pos (by rw [hRs]), if_pos rfl]
  refine bind_eq es ?_
  rw [ew]
  simp only [X.miradorlaw16_PlainBack.j1]
  rw [if_neg (by simp)]
  exact hl
theorem PlainBack_pure (n d : Int) (bg tr : Bool) (m1 m2 m3 s1 s2 s3 : Int) (w h : Int) (hw : (Lit.int .i64 w).wf = true) (hh : (Lit.int .i64 h).wf = true) (pix : List Int) (t : ByteArray) : X.miradorlaw16_PlainBack.f 4002 n d bg tr m1 m2 m3 s1 s2 s3 w h pix t = some true := by
  obtain ⟨b, v1, v2, v3⟩ := valid_f 4000 (by omega) n d bg tr m1 m2 m3 s1 s2 s3
  unfold X.miradorlaw16_PlainBack.f
  refine bind_eq (works_at _ (by omega)) ?_
  rw [if_pos rfl]
  by_cases h1 : (pix.length : Int) > 400
  · rw [if_pos h1]
    simp only [X.miradorlaw16_PlainBack.j0, if_true]
  · rw [if_neg h1]
    by_cases h2 : (t.size : Int) > 400
    · rw [if_pos h2]
      simp only [X.miradorlaw16_PlainBack.j0, if_true]
    · rw [if_neg h2]
      refine bind_eq (Fits_f n d bg tr m1 m2 m3 s1 s2 s3 b v1 w h) ?_
      cases hf : fitsB b w h with
      | false =>
        rw [if_neg (by decide)]
        simp only [X.miradorlaw16_PlainBack.j0, if_true]
      | true =>
        have hbt : b = true := by cases b with | false => simp [fitsB] at hf | true => rfl
        subst hbt
        have hfit := hf
        unfold fitsB at hfit
        simp only [Bool.true_and, Bool.and_eq_true, decide_eq_true_eq] at hfit
        have ha := area_le w h hfit.1 hfit.2
        rw [if_pos rfl, w64 (x := w * h) (by omega) (by omega)]
        by_cases hwh : (pix.length : Int) = w * h
        · rw [show ((pix.length : Int) != w * h) = false by simp [hwh]]
          exact PlainBack_j0 (v3.1 rfl) bg v1 w h hf pix (by omega) hwh t (by omega) 4000 (by omega)
        · rw [show ((pix.length : Int) != w * h) = true by simp [hwh]]
          simp only [X.miradorlaw16_PlainBack.j0, if_true]
theorem PlainBack_walk (n d : Int) (bg tr : Bool) (m1 m2 m3 s1 s2 s3 : Int) (w h : Int) (A : Option Addr) (len cap : Nat) (z : List Int) (s : ByteArray) (W : World) (h0 : (Lit.int .i64 n).wf = true) (h1 : (Lit.int .i64 d).wf = true) (h4 : (Lit.int .i64 m1).wf = true) (h5 : (Lit.int .i64 m2).wf = true) (h6 : (Lit.int .i64 m3).wf = true) (h7 : (Lit.int .i64 s1).wf = true) (h8 : (Lit.int .i64 s2).wf = true) (h9 : (Lit.int .i64 s3).wf = true) (hw : (Lit.int .i64 w).wf = true) (hh : (Lit.int .i64 h).wf = true) (hzz : (A = none ∧ len = 0 ∧ cap = 0 ∧ z = []) ∨ ∃ x, A = some x ∧ len ≤ cap ∧ cap ≤ maxLen ∧ z.length = cap ∧ (∀ i, i < z.length → W.cell? (x.add i) = some (.int .i64 (z.getD i 0))) ∧ ∀ n ∈ z, (Lit.int .i64 n).wf = true) (hyz : len * 8 ≤ 140737488351232) (hs : s.size ≤ 140737488351232) :
    Calls Try.prog 3 #[.agg #[.int .i64 n, .int .i64 d, .bool bg, .bool tr, .int .i64 m1, .int .i64 m2, .int .i64 m3, .int .i64 s1, .int .i64 s2, .int .i64 s3], .int .i64 w, .int .i64 h, .slice A len cap, .string s] W fun e W' => e = .returned (.bool true) ∧ Below W.heap.size W W' := by
  obtain ⟨l, rfl, hr, hm, hwf, hcap⟩ := ReadsInt.ofRowC hzz
  exact X.miradorlaw16_PlainBack.calls1 4002 n d bg tr m1 m2 m3 s1 s2 s3 w h A cap l s true W (Kd.C_of_reads (d := (0 : Int)) (h1 := fun _ => rfl) hr) hcap rfl (PlainBack_pure n d bg tr m1 m2 m3 s1 s2 s3 w h hw hh l s)
end Go.Proofs.Ytloigmonfbfieaa.H
