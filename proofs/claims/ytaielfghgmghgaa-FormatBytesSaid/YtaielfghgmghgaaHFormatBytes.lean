/- FormatBytes: which formats may be, their bytes, and the format of any bytes, are just what the document says. No condition. -/
-- OPEN 0 Go.Proofs.Ytaielfghgmghgaa.RC.open_format fa fb fc fd fe ff fg fh fi fj : ga gb ge gf gg gh gi gj
import Derived.Test.YtaielfghgmghgaaFM11
import Derived.Test.YtaielfghgmghgaaRF
import Derived.Test.YtaielfghgmghgaaXx10
namespace Go.Proofs.Ytaielfghgmghgaa.H
open Go.RowKit Go.Proofs.YtaielfghgmghgaaW.PrintWords Go.Proofs.YtaielfghgmghgaaW.PrintLast Go.Proofs.YtaielfghgmghgaaW.PrintMore Go.Proofs.Ytaielfghgmghgaa.B Go.Proofs.Ytaielfghgmghgaa.O Go.Proofs.Ytaielfghgmghgaa.F
set_option linter.unusedVariables false
set_option linter.unusedSimpArgs false
theorem parse_same (s : ByteArray) (hs : s.size ≤ 140737488351232) : ∃ p, X.format_Parse.f s = some p ∧ X.miradorref13_Parse.f 200 s = some p := by
  by_cases h16 : s.size < 16
  · exact ⟨_, parse_short s h16, rparse_short 200 s h16⟩
  · obtain ⟨l, hl⟩ : ∃ l, bytesOf s = l := ⟨_, rfl⟩
    obtain ⟨b, w1, w2, _⟩ := valid_f 200 (by omega) (l.getD 0 0) (l.getD 1 0) (l.getD 2 0 != 0) (l.getD 3 0 != 0) (l.getD 4 0 * 256 + l.getD 5 0) (l.getD 6 0 * 256 + l.getD 7 0) (l.getD 8 0 * 256 + l.getD 9 0) (l.getD 10 0) (l.getD 11 0) (l.getD 12 0)
    exact ⟨_, parse_long s (by omega) (by omega) l hl b w1, rparse_long 200 (by omega) s (by omega) l hl b w2⟩
theorem FormatBytes_pure (n d : Int) (bg tr : Bool) (m1 m2 m3 s1 s2 s3 : Int) (s : ByteArray) (h0 : (Lit.int .i64 n).wf = true) (h1 : (Lit.int .i64 d).wf = true) (h4 : (Lit.int .i64 m1).wf = true) (h5 : (Lit.int .i64 m2).wf = true) (h6 : (Lit.int .i64 m3).wf = true) (h7 : (Lit.int .i64 s1).wf = true) (h8 : (Lit.int .i64 s2).wf = true) (h9 : (Lit.int .i64 s3).wf = true) (hs : s.size ≤ 140737488351232) :
    X.miradorlaw13_FormatBytes.f 200 n d bg tr m1 m2 m3 s1 s2 s3 s = some true := by
  obtain ⟨p, p1, p2⟩ := parse_same s hs
  obtain ⟨b, v1, v2, _⟩ := valid_f 200 (by omega) n d bg tr m1 m2 m3 s1 s2 s3
  have e2 := rbytes_f 200 (by omega) n d bg tr m1 m2 m3 s1 s2 s3 (wf64 h0).2 (wf64 h1).2 (wf64 h4).2 (wf64 h5).2 (wf64 h6).2 (wf64 h7).2 (wf64 h8).2 (wf64 h9).2
  unfold X.miradorlaw13_FormatBytes.f
  refine bind_eq X.miradorlaw13_works.at0 ?_
  rw [if_pos rfl]
  by_cases h60 : (s.size : Int) > 60
  · rw [if_pos h60]
  · rw [if_neg h60]
    refine bind_eq p1 ?_
    refine bind_eq p2 ?_
    refine bind_eq v1 ?_
    refine bind_eq v2 ?_
    rw [if_pos (by simp)]
    refine bind_eq (bytes_f n d bg tr m1 m2 m3 s1 s2 s3) ?_
    refine bind_eq e2 ?_
    rw [if_pos rfl, if_pos (by simp), if_pos rfl]
    rfl
theorem FormatBytes_walk (n d : Int) (bg tr : Bool) (m1 m2 m3 s1 s2 s3 : Int) (s : ByteArray) (W : World) (h0 : (Lit.int .i64 n).wf = true) (h1 : (Lit.int .i64 d).wf = true) (h4 : (Lit.int .i64 m1).wf = true) (h5 : (Lit.int .i64 m2).wf = true) (h6 : (Lit.int .i64 m3).wf = true) (h7 : (Lit.int .i64 s1).wf = true) (h8 : (Lit.int .i64 s2).wf = true) (h9 : (Lit.int .i64 s3).wf = true) (hs : s.size ≤ 140737488351232) :
    Calls Try.prog 3 #[.agg #[.int .i64 n, .int .i64 d, .bool bg, .bool tr, .int .i64 m1, .int .i64 m2, .int .i64 m3, .int .i64 s1, .int .i64 s2, .int .i64 s3], .string s] W fun e W' => e = .returned (.bool true) ∧ Below W.heap.size W W' :=
  X.miradorlaw13_FormatBytes.calls1 200 n d bg tr m1 m2 m3 s1 s2 s3 s true W rfl (FormatBytes_pure n d bg tr m1 m2 m3 s1 s2 s3 s h0 h1 h4 h5 h6 h7 h8 h9 hs)
end Go.Proofs.Ytaielfghgmghgaa.H
