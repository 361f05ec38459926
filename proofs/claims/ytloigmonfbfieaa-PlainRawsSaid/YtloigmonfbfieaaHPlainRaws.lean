/- PlainRaws: colours' values, and their bytes, and the colours of any bytes, are just what the document says. No condition. -/
-- OPEN 0 Go.Proofs.Ytloigmonfbfieaa.RC.open_format fa fb fc fd fe ff fg fh fi fj : ga gb ge gf gg gh gi gj
import Derived.Test.YtloigmonfbfieaaPL2
import Derived.Test.YtloigmonfbfieaaRW
import Derived.Test.YtloigmonfbfieaaRF
import Derived.Test.YtloigmonfbfieaaXx12
namespace Go.Proofs.Ytloigmonfbfieaa.H
open Go.RowKit Go.Proofs.YtloigmonfbfieaaW.PrintWords Go.Proofs.YtloigmonfbfieaaW.PrintLast Go.Proofs.YtloigmonfbfieaaW.PrintMore Go.Proofs.Ytloigmonfbfieaa.B Go.Proofs.Ytloigmonfbfieaa.O Go.Proofs.Ytloigmonfbfieaa.F
set_option linter.unusedVariables false
set_option linter.unusedSimpArgs false
theorem PlainRaws_j1 (k : Nat) (n d : Int) (bg tr : Bool) (m1 m2 m3 s1 s2 s3 : Int) (l : List Int) (hl : l.length ≤ 400) (hk : 500 ≤ k) (b : Bool) (hb : X.format_Valid.f n d bg tr m1 m2 m3 s1 s2 s3 = some b) (hv : b = true ↔ Vd n d tr m1 m2 m3 s1 s2 s3) : X.miradorlaw16_PlainRaws.j1 (k + 1) l true false n d bg tr m1 m2 m3 s1 s2 s3 = some true := by
  simp only [X.miradorlaw16_PlainRaws.j1]
  rw [if_neg (by decide)]
  refine bind_eq hb ?_
  cases b with
  | false =>
    rw [if_neg (by decide), if_true]
    refine bind_eq (raw_bad n d bg tr m1 m2 m3 s1 s2 s3 hb k (by omega) l (by omega)) ?_
    rw [show (⟨#[]⟩ : ByteArray).toList = [] from ba_eq_nil.2 rfl]
    rfl
  | true =>
    have hV := hv.1 rfl
    have hbits := hV.bits
    obtain ⟨z, hz⟩ : ∃ z : Nat, n = 8 * z := ⟨(n / 8).toNat, by omega⟩
    rw [if_pos rfl]
    refine bind_eq (Values_f n d bg tr m1 m2 m3 s1 s2 s3 (fun c => (valN m1 m2 m3 s1 s2 s3 c : Int)) (fun c => valN_f hV bg c hb) l (by omega)) ?_
    refine bind_eq (rValues_f n d bg tr m1 m2 m3 s1 s2 s3 (fun c => (valN m1 m2 m3 s1 s2 s3 c : Int)) (fun c => rvalN_f hV bg c) l (by omega) k (by omega)) ?_
    refine bind_eq (row_same _ (by rw [List.length_map]; omega) k (by rw [List.length_map]; omega)) ?_
    rw [if_true, if_pos rfl]
    refine bind_eq (raw_ok hV bg hb z hz k (by omega) l (by omega)) ?_
    refine bind_eq (rRaw_f n d bg tr m1 m2 m3 s1 s2 s3 (fun c => (valN m1 m2 m3 s1 s2 s3 c : Int)) (fun c => putL bg (valN m1 m2 m3 s1 s2 s3 c : Int) z) (fun c => rvalN_f hV bg c) (fun k hk c => rPutF_f (tr := tr) hbits bg k hk z hz _) (fun c => by rw [putL_length]; omega) l (by omega) k (by omega)) ?_
    simp
theorem PlainRaws_j0 (k : Nat) (n d : Int) (bg tr : Bool) (m1 m2 m3 s1 s2 s3 : Int) (l : List Int) (hl : l.length ≤ 400) (w h : Int) (s : ByteArray) (hs : s.size ≤ 1600) (hk : (w * h).toNat + 3000 ≤ k) : X.miradorlaw16_PlainRaws.j0 (k + 2) l w h s true false n d bg tr m1 m2 m3 s1 s2 s3 = some true := by
  obtain ⟨b, v1, v2, v3⟩ := valid_f (k + 1) (by omega) n d bg tr m1 m2 m3 s1 s2 s3
  have hr : ∃ p : List Int × Int × Int, p.1.length ≤ 2000 ∧ X.plain_RawOf.f (k + 1) n d bg tr m1 m2 m3 s1 s2 s3 w h s = some p ∧ X.miradorref16_RawOf.f (k + 1) n d bg tr m1 m2 m3 s1 s2 s3 w h s = some p := by
    cases hf : fitsB b w h with
    | false => exact ⟨_, by simp, RawOf_no n d bg tr m1 m2 m3 s1 s2 s3 b v1 w h hf s _, rRawOf_no n d bg tr m1 m2 m3 s1 s2 s3 b _ v2 w h hf s⟩
    | true =>
      have hbt : b = true := by cases b with | false => simp [fitsB] at hf | true => rfl
      subst hbt
      have hV := v3.1 rfl
      have hbits := hV.bits
      obtain ⟨z, hz⟩ : ∃ z : Nat, n = 8 * z := ⟨(n / 8).toNat, by omega⟩
      refine ⟨_, ?_, RawOf_f hV bg v1 z hz w h hf s (by omega) _ (by omega), rRawOf_f hV bg _ v2 z hz w h hf s (by omega) (by omega)⟩
      unfold rawOfS
      split
      · simp
      · rw [colsR_length]
        have : (w * h).toNat * 1 ≤ (w * h).toNat * z := Nat.mul_le_mul_left _ (by omega)
        omega
  obtain ⟨p, pl, p1, p2⟩ := hr
  simp only [X.miradorlaw16_PlainRaws.j0]
  rw [if_neg (by decide)]
  refine bind_eq p1 ?_
  refine bind_eq p2 ?_
  refine bind_eq (row_same _ (by omega) (k + 1) (by omega)) ?_
  rw [if_pos rfl, if_pos rfl, if_pos rfl]
  refine bind_eq (Fits_f n d bg tr m1 m2 m3 s1 s2 s3 b v1 w h) ?_
  refine bind_eq (rFits_f n d bg tr m1 m2 m3 s1 s2 s3 b _ v2 w h) ?_
  rw [show (fitsB b w h != fitsB b w h) = false by simp]
  exact PlainRaws_j1 k n d bg tr m1 m2 m3 s1 s2 s3 l hl (by omega) b v1 v3
theorem PlainRaws_pure (n d : Int) (bg tr : Bool) (m1 m2 m3 s1 s2 s3 : Int) (l : List Int) (w h : Int) (s : ByteArray) : ∃ k, X.miradorlaw16_PlainRaws.f k n d bg tr m1 m2 m3 s1 s2 s3 l w h s = some true := by
  refine ⟨(w * h).toNat + 4002, ?_⟩
  unfold X.miradorlaw16_PlainRaws.f
  refine bind_eq (works_at _ (by omega)) ?_
  rw [if_pos rfl]
  by_cases h1 : (l.length : Int) > 400
  · rw [if_pos h1]
    simp only [X.miradorlaw16_PlainRaws.j0, if_true]
  · rw [if_neg h1]
    by_cases h2 : (s.size : Int) > 1600
    · rw [decide_eq_true h2]
      simp only [X.miradorlaw16_PlainRaws.j0, if_true]
    · rw [decide_eq_false h2]
      exact PlainRaws_j0 ((w * h).toNat + 4000) n d bg tr m1 m2 m3 s1 s2 s3 l (by omega) w h s (by omega) (by omega)
theorem PlainRaws_walk (n d : Int) (bg tr : Bool) (m1 m2 m3 s1 s2 s3 : Int) (A : Option Addr) (len cap : Nat) (z : List Int) (w h : Int) (s : ByteArray) (W : World) (h0 : (Lit.int .i64 n).wf = true) (h1 : (Lit.int .i64 d).wf = true) (h4 : (Lit.int .i64 m1).wf = true) (h5 : (Lit.int .i64 m2).wf = true) (h6 : (Lit.int .i64 m3).wf = true) (h7 : (Lit.int .i64 s1).wf = true) (h8 : (Lit.int .i64 s2).wf = true) (h9 : (Lit.int .i64 s3).wf = true) (hzz : (A = none ∧ len = 0 ∧ cap = 0 ∧ z = []) ∨ ∃ x, A = some x ∧ len ≤ cap ∧ cap ≤ maxLen ∧ z.length = cap ∧ (∀ i, i < z.length → W.cell? (x.add i) = some (.int .i64 (z.getD i 0))) ∧ ∀ n ∈ z, (Lit.int .i64 n).wf = true) (hyz : len * 8 ≤ 140737488351232) (hw : (Lit.int .i64 w).wf = true) (hh : (Lit.int .i64 h).wf = true) (hs : s.size ≤ 140737488351232) :
    Calls Try.prog 4 #[.agg #[.int .i64 n, .int .i64 d, .bool bg, .bool tr, .int .i64 m1, .int .i64 m2, .int .i64 m3, .int .i64 s1, .int .i64 s2, .int .i64 s3], .slice A len cap, .int .i64 w, .int .i64 h, .string s] W fun e W' => e = .returned (.bool true) ∧ Below W.heap.size W W' := by
  obtain ⟨l, rfl, hr, hm, hwf, hcap⟩ := ReadsInt.ofRowC hzz
  obtain ⟨k, hk⟩ := PlainRaws_pure n d bg tr m1 m2 m3 s1 s2 s3 l w h s
  exact X.miradorlaw16_PlainRaws.calls1 k n d bg tr m1 m2 m3 s1 s2 s3 A cap l w h s true W (Kd.C_of_reads (d := (0 : Int)) (h1 := fun _ => rfl) hr) hcap rfl hk
end Go.Proofs.Ytloigmonfbfieaa.H
