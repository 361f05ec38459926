/- OctetsSplit: what is read in two steps is what is read at once. No condition. -/
import Derived.Test.YtcacnnjedfkelaaO4
namespace Go.Proofs.Ytcacnnjedfkelaa.H
open Go.RowKit Go.Proofs.Ytcacnnjedfkelaa.X Go.Proofs.Ytcacnnjedfkelaa.B Go.Proofs.Ytcacnnjedfkelaa.O Go.Proofs.YtcacnnjedfkelaaW.PrintWords Go.Proofs.YtcacnnjedfkelaaW.PrintLast Go.Proofs.YtcacnnjedfkelaaW.PrintMore
set_option linter.unusedVariables false
set_option linter.unusedSimpArgs false
set_option maxHeartbeats 4000000 in
set_option maxRecDepth 100000 in
theorem OctetsSplit_walk (s : ByteArray) (a b : Int) (w : World) (hs : s.size ≤ 140737488351232) (ha : (Lit.int .i64 a).wf = true) (hb : (Lit.int .i64 b).wf = true) :
    Calls Try.prog 4 #[.string s, .int .i64 a, .int .i64 b] w fun e w' => e = .returned (.bool true) ∧ Below w.heap.size w w' := by
  obtain ⟨a0, a1⟩ := wf64 ha
  obtain ⟨b0, b1⟩ := wf64 hb
  clear ha hb
  go_enter Try.func4, Try.ntmps4
  go_wp2_with (go_at_call 8; refine (works_c _).mono ?_; rintro e w1 ⟨rfl, hb⟩; have HB := Lib.hid hb; clear hb)
  all_goals first
    | (go_ret; exact ⟨rfl, HB.out⟩)
    | skip
  have g1' : (s.size : Int) ≤ 300 := by assumption
  have g2' : 0 ≤ a := by assumption
  have g3' : 0 ≤ b := by assumption
  have g5' : a + b ≤ (s.size : Int) := by omega
  obtain ⟨x, hx⟩ : ∃ x, x = s.extract (0 : Int).toNat (0 + a).toNat := ⟨_, rfl⟩
  obtain ⟨y, hy⟩ : ∃ y, y = s.extract a.toNat (a + b).toNat := ⟨_, rfl⟩
  have r1 : rdB s 0 0 a = (x, a, 0) := by unfold rdB; rw [if_neg (by simp), if_neg (by omega), if_neg (by omega), hx, Int.zero_add]
  have r2 : rdB s a 0 b = (y, a + b, 0) := by unfold rdB; rw [if_neg (by simp), if_neg (by omega), if_neg (by omega), hy]
  have r3 : rdB s 0 0 (a + b) = (x ++ y, a + b, 0) := by
    unfold rdB
    rw [if_neg (by simp), if_neg (by omega), if_neg (by omega), hx, hy, Int.zero_add, Int.zero_add, ba_extract_split _ _ _ _ (by omega) (by omega)]
  have hsz : x.size + y.size ≤ 9223372036854775807 := by rw [hx, hy, ba_size_extract, ba_size_extract]; omega
  have R1 := Lib.hid r1
  have R2 := Lib.hid r2
  have R3 := Lib.hid r3
  have h0 : s.size ≤ 4611686018427387904 := by omega
  clear hx hy r1 r2 r3
  refine (new_c s w _ HB.out).mono ?_
  rintro e w2 ⟨g1, rfl, hi, hb, hb2, hg⟩
  have HI1 := Lib.hid hi
  have HB2 := Lib.hid hb
  clear hi hb hb2 hg
  go_wp2_with fail
  refine (new_c s w _ HB2.out).mono ?_
  rintro e w3 ⟨g2, rfl, hi, hb, hb2, hg⟩
  have HN : Hid (g1 ≠ g2) := Lib.hid (by have := IsS46.lt HI1.out; omega)
  have HJ1 := Lib.hid (IsS46.below HI1.out hb2)
  have HI2 := Lib.hid hi
  have HB3 := Lib.hid hb
  clear hi hb hb2 hg
  go_wp2_with fail
  refine (bytes_c g1 s 0 0 a x a 0 w _ h0 (by omega) (by omega) R1.out HJ1.out HB3.out).mono ?_
  rintro e w4 ⟨rfl, hi, hb, hk⟩
  have HK1 := Lib.hid hi
  have HB4 := Lib.hid hb
  have HK2 := Lib.hid (cur_keep HI2.out hk (Ne.symm HN.out))
  clear hi hb hk
  go_wp2_with fail
  refine (bytes_c g1 s a 0 b y (a + b) 0 w _ h0 (by omega) (by omega) R2.out HK1.out HB4.out).mono ?_
  rintro e w5 ⟨rfl, hi, hb, hk⟩
  have HL1 := Lib.hid hi
  have HB5 := Lib.hid hb
  have HL2 := Lib.hid (cur_keep HK2.out hk (Ne.symm HN.out))
  clear hi hb hk
  go_wp2_with fail
  refine (bytes_c g2 s 0 0 (a + b) (x ++ y) (a + b) 0 w _ h0 (by omega) (by omega) R3.out HL2.out HB5.out).mono ?_
  rintro e w6 ⟨rfl, hi, hb, hk⟩
  have HM2 := Lib.hid hi
  have HB6 := Lib.hid hb
  have HM1 := Lib.hid (cur_keep HL1.out hk HN.out)
  clear hi hb hk
  go_wp2_with fail
  refine (at_c g1 s (a + b) 0 w _ HM1.out HB6.out).mono ?_
  rintro e w7 ⟨rfl, hi, hb, hk⟩
  have HN1 := Lib.hid hi
  have HB7 := Lib.hid hb
  have HN2 := Lib.hid (cur_keep HM2.out hk (Ne.symm HN.out))
  clear hi hb hk
  go_wp2_with fail
  refine (at_c g2 s (a + b) 0 w _ HN2.out HB7.out).mono ?_
  rintro e w8 ⟨rfl, hi, hb, hk⟩
  have HO2 := Lib.hid hi
  have HB8 := Lib.hid hb
  have HO1 := Lib.hid (cur_keep HN1.out hk HN.out)
  clear hi hb hk
  go_wp2_with fail
  refine (end_c g1 s (a + b) 0 w _ h0 (by omega) (by omega) HO1.out HB8.out).mono ?_
  rintro e w9 ⟨rfl, hi, hb, hk⟩
  have HP1 := Lib.hid hi
  have HB9 := Lib.hid hb
  have HP2 := Lib.hid (cur_keep HO2.out hk (Ne.symm HN.out))
  clear hi hb hk
  go_wp2_with fail
  refine (end_c g2 s (a + b) 0 w _ h0 (by omega) (by omega) HP2.out HB9.out).mono ?_
  rintro e w10 ⟨rfl, hi, hb, hk⟩
  have HB10 := Lib.hid hb
  clear hi hb hk
  go_wp2
  go_ret
  exact ⟨rfl, HB10.out⟩
end Go.Proofs.Ytcacnnjedfkelaa.H
