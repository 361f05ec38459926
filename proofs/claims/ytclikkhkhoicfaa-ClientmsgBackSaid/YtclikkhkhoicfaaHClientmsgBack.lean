/- ClientmsgBack: what is written is read again, with the fields that it has, whatever stands behind; with a byte less more is needed. No condition. -/
-- OPEN 0 Go.Proofs.Ytclikkhkhoicfaa.RC.open_msg ma mb mc md me mf mg mh mi mj mk ml mm mn mo mp mq mA mz mC mr : na nc nd ne nf ng nh ni nl nm nn no np nq nr ny nw ns
import Derived.Test.YtclikkhkhoicfaaCBK
namespace Go.Proofs.Ytclikkhkhoicfaa.H
open Go.RowKit Go.Proofs.YtclikkhkhoicfaaW.PrintWords Go.Proofs.YtclikkhkhoicfaaW.PrintLast Go.Proofs.YtclikkhkhoicfaaW.PrintMore Go.Proofs.Ytclikkhkhoicfaa.B Go.Proofs.Ytclikkhkhoicfaa.O Go.Proofs.Ytclikkhkhoicfaa.F Go.Proofs.Ytclikkhkhoicfaa.X
set_option linter.unusedVariables false
set_option linter.unusedSimpArgs false
theorem halves (s : ByteArray) (k : Nat) (h : k ≤ s.size) : s.extract 0 k ++ s.extract k s.size = s := by
  apply ba_bytesOf.1
  rw [bytes_append, bytes_extract, bytes_extract, List.drop_zero, List.take_of_length_le (i := s.size) (by rw [bytesOf_length]; exact Nat.le_refl _), List.take_append_drop]
/-- With a byte less more is needed. -/
theorem less {m : M20} {bs : List Int} (h : Form m bs) : ∃ x : P21, clientmsg_Parse.f ((strOfNums bs).extract 0 ((strOfNums bs).size - 1)) = some x ∧ xE x = 2 ∧ xA x = 0 := by
  obtain ⟨_, hz, h2⟩ := h.range
  have hs : (strOfNums bs).size = bs.length := strOfNums_size bs
  have p2 := parse_form h (⟨#[]⟩ : ByteArray) (Nat.zero_le _)
  rw [ba_append_nil] at p2
  have e := halves (strOfNums bs) ((strOfNums bs).size - 1) (Nat.sub_le _ _)
  have hz1 : ((strOfNums bs).extract 0 ((strOfNums bs).size - 1)).size = bs.length - 1 := by rw [ByteArray.size_extract, hs]; omega
  obtain ⟨x, y, e1, e2, ha, hb, hc⟩ := parse_pair ((strOfNums bs).extract 0 ((strOfNums bs).size - 1)) ((strOfNums bs).extract ((strOfNums bs).size - 1) (strOfNums bs).size) (by rw [hz1]; omega) (by rw [e, hs]; omega)
  rw [e, p2] at e2
  obtain rfl := Option.some.inj e2
  refine ⟨x, e1, ?_⟩
  by_cases h0 : xE x = 0
  · obtain ⟨k1, k2⟩ := ha h0
    rw [← k1, hz1, xA_tup] at k2
    omega
  · by_cases h2 : xE x = 2
    · exact ⟨h2, (hb h2).1⟩
    · exact absurd ((hc h0 h2).2.symm.trans (xE_tup _ _ _)) h0
theorem ClientmsgBack_walk (ma : Int) (mb : Bool) (mc : Int) (md : Int) (me : Int) (mf : Int) (mg : Int) (mh : Int) (mi : Int) (mj : Bool) (mk : Bool) (ml : Int) (mm : Int) (mn : Int) (mo : Int) (mp : Int) (mq : Int) (mA : Option Addr) (mz : List Int) (mC : Nat) (mr t : ByteArray) (W : World) (na : (Lit.int .i64 ma).wf = true) (nc : (Lit.int .i64 mc).wf = true) (nd : (Lit.int .i64 md).wf = true) (ne : (Lit.int .i64 me).wf = true) (nf : (Lit.int .i64 mf).wf = true) (ng : (Lit.int .i64 mg).wf = true) (nh : (Lit.int .i64 mh).wf = true) (ni : (Lit.int .i64 mi).wf = true) (nl : (Lit.int .i64 ml).wf = true) (nm : (Lit.int .i64 mm).wf = true) (nn : (Lit.int .i64 mn).wf = true) (no : (Lit.int .i64 mo).wf = true) (np : (Lit.int .i64 mp).wf = true) (nq : (Lit.int .i64 mq).wf = true) (nr : Kd.C (Kd.int .i64) W mA mz.length mz) (ny : mz.length ≤ mC) (nw : ∀ n ∈ mz, (Lit.int .i64 n).wf = true) (ns : mr.size ≤ maxLen) (y1 : t.size ≤ 140737488351232) :
    Calls Try.prog 4 #[.agg #[.int .i64 ma, .bool mb, .int .i64 mc, .int .i64 md, .int .i64 me, .int .i64 mf, .int .i64 mg, .int .i64 mh, .int .i64 mi, .bool mj, .bool mk, .int .i64 ml, .int .i64 mm, .int .i64 mn, .int .i64 mo, .int .i64 mp, .int .i64 mq, .slice mA mz.length mC, .string mr], .string t] W fun e W' => e = .returned (.bool true) ∧ Below W.heap.size W W' := by
  by_cases h0 : 5000 < mz.length
  · exact back_long_z ma mb mc md me mf mg mh mi mj mk ml mm mn mo mp mq mA mz mC mr t W h0
  by_cases h1 : 5000 < mr.size
  · exact back_long_r ma mb mc md me mf mg mh mi mj mk ml mm mn mo mp mq mA mz mC mr t W (by omega) h1
  by_cases h2 : 5000 < t.size
  · exact back_long_t ma mb mc md me mf mg mh mi mj mk ml mm mn mo mp mq mA mz mC mr t W (by omega) (by omega) h2
  obtain ⟨r, eb, hbad, hok⟩ := say_c ma mb mc md me mf mg mh mi mj mk ml mm mn mo mp mq mz mr (by omega) (by omega) (fun x hx => by have := wf64 (nw x hx); unfold I64; omega)
  obtain ⟨s, e0⟩ := r
  by_cases he : e0 = 0
  · subst he
    obtain ⟨M, bs, hf, hs, hp⟩ := hok rfl
    obtain rfl : s = strOfNums bs := hs
    obtain ⟨⟨u0, u1, u2, u3, u4, u5, u6, u7, u8, u9, u10, u11, u12, u13, u14, u15, u16, u17, u18⟩, hu⟩ : ∃ p : P19, plainF ma mb mc md me mf mg mh mi mj mk ml mm mn mo mp mq mz mr = p := ⟨_, rfl⟩
    rw [hu] at hp
    have hE := hf.reads.1
    have hsm := hf.same 400 (by decide)
    rw [hp] at hsm
    have e4 := parse_form hf t (by omega)
    have e5 : tup M (bs.length : Int) 0 = (u0, u1, u2, u3, u4, u5, u6, u7, u8, u9, u10, u11, u12, u13, u14, u15, u16, u17, u18, ((strOfNums bs).size : Int), 0) := by
      rw [strOfNums_size]
      show ((p19 M).1, (p19 M).2.1, (p19 M).2.2.1, (p19 M).2.2.2.1, (p19 M).2.2.2.2.1, (p19 M).2.2.2.2.2.1, (p19 M).2.2.2.2.2.2.1, (p19 M).2.2.2.2.2.2.2.1, (p19 M).2.2.2.2.2.2.2.2.1, (p19 M).2.2.2.2.2.2.2.2.2.1, (p19 M).2.2.2.2.2.2.2.2.2.2.1, (p19 M).2.2.2.2.2.2.2.2.2.2.2.1, (p19 M).2.2.2.2.2.2.2.2.2.2.2.2.1, (p19 M).2.2.2.2.2.2.2.2.2.2.2.2.2.1, (p19 M).2.2.2.2.2.2.2.2.2.2.2.2.2.2.1, (p19 M).2.2.2.2.2.2.2.2.2.2.2.2.2.2.2.1, (p19 M).2.2.2.2.2.2.2.2.2.2.2.2.2.2.2.2.1, (p19 M).2.2.2.2.2.2.2.2.2.2.2.2.2.2.2.2.2.1, (p19 M).2.2.2.2.2.2.2.2.2.2.2.2.2.2.2.2.2.2, (bs.length : Int), (0 : Int)) = _
      rw [hp]
    rw [e5] at e4
    obtain ⟨⟨z0, z1, z2, z3, z4, z5, z6, z7, z8, z9, z10, z11, z12, z13, z14, z15, z16, z17, z18, a, e⟩, ex, hx1, hx2⟩ := less hf
    obtain rfl : e = 2 := hx1
    obtain rfl : a = 0 := hx2
    obtain ⟨_, hz, hz2⟩ := hf.range
    exact back_ok ma mb mc md me mf mg mh mi mj mk ml mm mn mo mp mq mA mz mC mr t W nr ny nw (by omega) (by omega) (by omega) (strOfNums bs) u0 u1 u2 u3 u4 u5 u6 u7 u8 u9 u10 u11 u12 u13 u14 u15 u16 u17 u18 z0 z1 z2 z3 z4 z5 z6 z7 z8 z9 z10 z11 z12 z13 z14 z15 z16 z17 z18 eb e4 hu hsm (by rw [strOfNums_size]; exact hz2) (by rw [strOfNums_size]; exact hz) ex
  · exact back_bad ma mb mc md me mf mg mh mi mj mk ml mm mn mo mp mq mA mz mC mr t W nr ny nw (by omega) (by omega) (by omega) s e0 eb he (hbad he)
end Go.Proofs.Ytclikkhkhoicfaa.H
