/- OctetsMore: what is read of a text is read of a longer one; where more bytes are needed, nothing but that is told. No condition. -/
import Derived.Test.YtcacnnjedfkelaaO4
import Derived.Lib.Hide
import Derived.Deep.QuietTactic
import Derived.BigQuiet
namespace Go.Proofs.Ytcacnnjedfkelaa.H
open Go.RowKit Go.Proofs.Ytcacnnjedfkelaa.X Go.Proofs.Ytcacnnjedfkelaa.B Go.Proofs.Ytcacnnjedfkelaa.O Go.Proofs.YtcacnnjedfkelaaW.PrintWords Go.Proofs.YtcacnnjedfkelaaW.PrintLast Go.Proofs.YtcacnnjedfkelaaW.PrintMore
set_option linter.unusedVariables false
set_option linter.unusedSimpArgs false
set_option maxHeartbeats 8000000 in
set_option maxRecDepth 100000 in
theorem OctetsMore_walk (s t : ByteArray) (A : Option Addr) (len cap : Nat) (z : List Int) (w : World) (hs : s.size ≤ 140737488351232) (ht : t.size ≤ 140737488351232)
    (hz : (A = none ∧ len = 0 ∧ cap = 0 ∧ z = []) ∨ ∃ x, A = some x ∧ len ≤ cap ∧ cap ≤ maxLen ∧ z.length = cap ∧ (∀ i, i < z.length → w.cell? (x.add i) = some (.int .i64 (z.getD i 0))) ∧ ∀ n ∈ z, (Lit.int .i64 n).wf = true) (hy : len * 8 ≤ 140737488351232) :
    Calls Try.prog 5 #[.string s, .string t, .slice A len cap] w fun e w' => e = .returned (.bool true) ∧ Below w.heap.size w w' := by
  obtain ⟨l, rfl, hr, hm, hwf, hcap⟩ := ReadsInt.ofRowC hz
  have HR := Lib.hid hr
  have HWF : Hid (∀ k, k < l.length → -9223372036854775808 ≤ l.getD k 0 ∧ l.getD k 0 ≤ 9223372036854775807) := Lib.hid fun k hk => wf64 (hwf _ (by simp [List.getD, hk]))
  clear hz hr hm hwf hcap
  go_enter Try.func5, Try.ntmps5
  go_wp2_with (go_at_call 8; refine (works_c _).mono ?_; rintro e w1 ⟨rfl, hb⟩; have HB := Lib.hid hb; clear hb)
  all_goals first
    | (go_ret; exact ⟨rfl, HB.out⟩)
    | skip
  have q1 : (s.size : Int) ≤ 300 := by assumption
  have h0 : s.size ≤ 4611686018427387904 := by omega
  have h0t : (s ++ t).size ≤ 4611686018427387904 := by rw [ba_size_append]; omega
  have hst : (s ++ t).size = s.size + t.size := ba_size_append s t
  have HST := Lib.hid hst
  have hadd : s.size + t.size ≤ 9223372036854775807 := by omega
  clear hst
  refine (new_c s w _ HB.out).mono ?_
  rintro e w2 ⟨g1, rfl, hi, hb, hb2, hg⟩
  have HI1 := Lib.hid hi
  have HB2 := Lib.hid hb
  clear hi hb hb2 hg
  go_wp2_with fail
  refine (new_c (s ++ t) w _ HB2.out).mono ?_
  rintro e w3 ⟨g2, rfl, hi, hb, hb2, hg⟩
  have HN : Hid (g1 ≠ g2) := Lib.hid (by have := IsS46.lt HI1.out; omega)
  have HJ1 := Lib.hid (IsS46.below HI1.out hb2)
  have HI2 := Lib.hid hi
  have HB3 := Lib.hid hb
  clear hi hb hb2 hg
  go_wp2_with fail
  go_loopw [10] (fun i wr => ∃ (k : Nat) (p : Int), k ≤ l.length ∧ i = .int .i64 k ∧ 0 ≤ p ∧ p ≤ s.size ∧ Hid (IsS46 w wr g1 s p 0) ∧ Hid (IsS46 w wr g2 (s ++ t) p 0) ∧ Hid (Below w.heap.size w wr)) (fun i _ => l.length - (intOf i).toNat)
  case atStart => exact ⟨0, 0, Nat.zero_le _, rfl, by omega, by omega, HJ1, HI2, HB3⟩
  case round =>
    obtain ⟨k, p, hk, rfl, p0, p1, HC, HD, HW⟩ := hrel
    by_cases hlt : k < l.length
    · obtain ⟨ad, rfl, hel⟩ := elem_at HR.out k hlt
      have HE := Lib.hid hel
      obtain ⟨v0, v1⟩ := HWF.out k hlt
      have hst := HST.out
      generalize l.getD k 0 = v at *
      clear hel
      have he0 := HE.out _ HW.out
      by_cases hok : 0 ≤ v ∧ v ≤ (s.size : Int) - p
      · obtain ⟨k0, k1⟩ := hok
        obtain ⟨x, hx⟩ : ∃ x, x = s.extract p.toNat (p + v).toNat := ⟨_, rfl⟩
        have R1 : Hid (rdB s p 0 v = (x, p + v, 0)) := Lib.hid (by unfold rdB; rw [if_neg (by simp), if_neg (by omega), if_neg (by omega), hx])
        have R2 : Hid (rdB (s ++ t) p 0 v = (x, p + v, 0)) := Lib.hid (by unfold rdB; rw [if_neg (by simp), if_neg (by omega), if_neg (by omega), hx, ba_extract_append_left _ _ _ _ (by omega)])
        have hxs : (x.size : Int) = v := by rw [hx, ba_size_extract]; omega
        have hxb : ((x.size : Int) != v) = false := by simp [hxs]
        have k2 : p ≤ ((s ++ t).size : Int) := by omega
        clear hx hst hxs
        go_wp2_with fail
        refine (bytes_c g1 s p 0 v x (p + v) 0 w _ h0 p0 p1 R1.out HC.out HW.out).mono ?_
        rintro e w4 ⟨rfl, hi, hb, hkp⟩
        have HC4 := Lib.hid hi
        have HB4 := Lib.hid hb
        have HD4 := Lib.hid (cur_keep HD.out hkp (Ne.symm HN.out))
        clear hi hb hkp he0
        have he1 := HE.out _ HB4.out
        go_wp2_with fail
        refine (bytes_c g2 (s ++ t) p 0 v x (p + v) 0 w _ h0t p0 k2 R2.out HD4.out HB4.out).mono ?_
        rintro e w5 ⟨rfl, hi, hb, hkp⟩
        have HD5 := Lib.hid hi
        have HB5 := Lib.hid hb
        have HC5 := Lib.hid (cur_keep HC4.out hkp HN.out)
        clear hi hb hkp he1
        have he2 := HE.out _ HB5.out
        go_wp2_with fail
        refine (err_q g1 s (p + v) 0 w _ HC5.out).mono ?_
        rintro e _ ⟨rfl, rfl⟩
        go_wp2_with fail
        refine (err_q g2 (s ++ t) (p + v) 0 w _ HD5.out).mono ?_
        rintro e _ ⟨rfl, rfl⟩
        go_wp2_with fail
        refine (err_q g1 s (p + v) 0 w _ HC5.out).mono ?_
        rintro e _ ⟨rfl, rfl⟩
        go_wp2_with fail
        go_roundw
        case rel => exact ⟨k + 1, p + v, by omega, by go_num, by omega, by omega, HC5, HD5, HB5⟩
        case measure => simp [intOf]; omega
      · obtain ⟨er, her, hern⟩ : ∃ er : Int, rdB s p 0 v = (⟨#[]⟩, p, er) ∧ ((er = 1 ∧ v < 0) ∨ (er = 2 ∧ 0 ≤ v ∧ v > (s.size : Int) - p)) := by
          by_cases hn : v < 0
          · exact ⟨1, by unfold rdB; rw [if_neg (by simp), if_pos hn], .inl ⟨rfl, hn⟩⟩
          · exact ⟨2, by unfold rdB; rw [if_neg (by simp), if_neg hn, if_pos (by omega)], .inr ⟨rfl, by omega, by omega⟩⟩
        have R1 := Lib.hid her
        obtain ⟨x2, p2, e2, hx2⟩ : ∃ x2 p2 e2, rdB (s ++ t) p 0 v = (x2, p2, e2) := ⟨_, _, _, rfl⟩
        have R2 := Lib.hid hx2
        have hne : er ≠ 0 := by omega
        have k2 : p ≤ ((s ++ t).size : Int) := by omega
        have R3 := Lib.hid (rdB_err s p er 0 hne)
        have R4 : Hid ((beN (bytesOf (rdB s p (asked er 1) 1).1), (rdB s p (asked er 1) 1).2.1, (rdB s p (asked er 1) 1).2.2) = (0, p, er)) := Lib.hid (by rw [asked_err er 1 hne, rdB_err s p er 1 hne]; rfl)
        have R5 : Hid ((wrap64 (wrap32 (beN (bytesOf (rdB s p er 4).1))), (rdB s p er 4).2.1, (rdB s p er 4).2.2) = (0, p, er)) := Lib.hid (by rw [rdB_err s p er 4 hne]; simp [beN, bytesOf, wrap64, wrap32])
        have b0 : (er == 0) = false := by simpa using hne
        have b0' : (er != 0) = true := by simpa using hne
        clear her hx2 hst
        go_wp2_with fail
        refine (bytes_c g1 s p 0 v _ p er w _ h0 p0 p1 R1.out HC.out HW.out).mono ?_
        rintro e w4 ⟨rfl, hi, hb, hkp⟩
        have HC4 := Lib.hid hi
        have HB4 := Lib.hid hb
        have HD4 := Lib.hid (cur_keep HD.out hkp (Ne.symm HN.out))
        clear hi hb hkp he0
        have he1 := HE.out _ HB4.out
        go_wp2_with fail
        refine (bytes_c g2 (s ++ t) p 0 v x2 p2 e2 w _ h0t p0 k2 R2.out HD4.out HB4.out).mono ?_
        rintro e w5 ⟨rfl, hi, hb, hkp⟩
        have HB5 := Lib.hid hb
        have HC5 := Lib.hid (cur_keep HC4.out hkp HN.out)
        clear hi hb hkp he1
        go_wp2_with fail
        refine (err_q g1 s p er w _ HC5.out).mono ?_
        rintro e _ ⟨rfl, rfl⟩
        go_wp2_with fail
        refine (err_q g1 s p er w _ HC5.out).mono ?_
        rintro e _ ⟨rfl, rfl⟩
        go_wp2_with fail
        refine (at_c g1 s p er w _ HC5.out HB5.out).mono ?_
        rintro e w6 ⟨rfl, hi, hb, hkp⟩
        have HC6 := Lib.hid hi
        have HB6 := Lib.hid hb
        clear hi hb hkp
        go_wp2_with fail
        refine (int_c g1 s p er 1 0 p er w _ h0 p0 p1 R4.out HC6.out HB6.out).mono ?_
        rintro e w7 ⟨rfl, hi, hb, hkp⟩
        have HC7 := Lib.hid hi
        have HB7 := Lib.hid hb
        clear hi hb hkp
        go_wp2_with fail
        refine (bytes_c g1 s p er 0 _ p er w _ h0 p0 p1 R3.out HC7.out HB7.out).mono ?_
        rintro e w8 ⟨rfl, hi, hb, hkp⟩
        have HC8 := Lib.hid hi
        have HB8 := Lib.hid hb
        clear hi hb hkp
        go_wp2_with fail
        refine (signed_c g1 s p er 0 p er w _ h0 p0 p1 R5.out HC8.out HB8.out).mono ?_
        rintro e w9 ⟨rfl, hi, hb, hkp⟩
        have HC9 := Lib.hid hi
        have HB9 := Lib.hid hb
        clear hi hb hkp
        go_wp2_with fail
        refine (at_c g1 s p er w _ HC9.out HB9.out).mono ?_
        rintro e w10 ⟨rfl, hi, hb, hkp⟩
        have HCa := Lib.hid hi
        have HBa := Lib.hid hb
        clear hi hb hkp
        have he2 := HE.out _ HBa.out
        go_wp2_with fail
        rcases hern with ⟨rfl, hv⟩ | ⟨rfl, hv, hv2⟩
        · have d1 : decide (v < 0) = true := decide_eq_true hv
          have d2 : decide ((s.size : Int) - p < v) = false := decide_eq_false (by omega)
          clear hok hv
          go_quiet ((go_at_call 19; exact Calls.quiet_of_same ((err_q g1 s p 1 w _ (IsS46.drewN HCa.out _)).mono fun _ _ h => ⟨h.1, h.2.symm⟩)))
          go_wp2
          go_ret
          exact ⟨rfl, by repeat (first | exact HBa.out | apply pw_below_drewN)⟩
        · have d1 : decide (v < 0) = false := decide_eq_false (by omega)
          have d2 : decide ((s.size : Int) - p < v) = true := decide_eq_true hv2
          clear hok hv hv2
          go_quiet ((go_at_call 19; exact Calls.quiet_of_same ((err_q g1 s p 2 w _ (IsS46.drewN HCa.out _)).mono fun _ _ h => ⟨h.1, h.2.symm⟩)))
          go_wp2
          go_ret
          exact ⟨rfl, by repeat (first | exact HBa.out | apply pw_below_drewN)⟩
    · obtain rfl : k = l.length := by omega
      go_wp2
      go_ret
      exact ⟨rfl, HW.out⟩
end Go.Proofs.Ytcacnnjedfkelaa.H
