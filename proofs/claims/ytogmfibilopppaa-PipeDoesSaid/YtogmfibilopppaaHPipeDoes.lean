/- PipeDoes: whatever is put in and taken, each call answers as the document says. No condition. -/
-- OPEN 1 Go.Proofs.Ytogmfibilopppaa.PI.open_acts a len cap z : w y
import Derived.Test.YtogmfibilopppaaAC
namespace Go.Proofs.Ytogmfibilopppaa.H
open Go.RowKit Go.Proofs.YtogmfibilopppaaW.PrintWords Go.Proofs.YtogmfibilopppaaW.PrintLast Go.Proofs.YtogmfibilopppaaW.PrintMore Go.Proofs.Ytogmfibilopppaa.Q Go.Proofs.Ytogmfibilopppaa.BL Go.Proofs.Ytogmfibilopppaa.B Go.Proofs.Ytogmfibilopppaa.PI
set_option linter.unusedVariables false
set_option linter.unusedSimpArgs false
set_option maxHeartbeats 4000000 in
set_option maxRecDepth 100000 in
theorem PipeDoes_walk (room : Int) (a : Option Addr) (len cap : Nat) (zs : List (Int × ByteArray)) (w : World) (hro : (Lit.int .i64 room).wf = true) (hlen : len ≤ maxLen) (hz : IsActs w a len zs) :
    Calls Try.prog 3 #[.int .i64 room, .slice a len cap] w fun e w' => e = .returned (.bool true) ∧ Below w.heap.size w w' := by
  obtain ⟨o0, o1⟩ := wf64 hro
  have hlen2 : len ≤ 9223372036854775807 := by unfold maxLen at hlen; omega
  have HA := Lib.hid hz
  clear hro hlen hz
  go_enter Try.func3, Try.ntmps3
  go_wp2_with fail
  refine (works_c _).mono ?_
  rintro e w1 ⟨rfl, hb⟩
  have HB := Lib.hid hb
  clear hb
  go_wp2_with fail
  all_goals first
    | (go_ret; exact ⟨rfl, HB.out⟩)
    | skip
  have hg : (len : Int) ≤ 60 := by assumption
  obtain ⟨rm, hrm⟩ : ∃ rm, max room 0 = rm := ⟨_, rfl⟩
  have r0 : 0 ≤ rm ∧ rm ≤ 9223372036854775807 := by omega
  refine (New_c room w.heap.size _ HB.out.size).mono ?_
  rintro e w2 ⟨g1, rfl, hp, hg1, hb⟩
  rw [hrm] at hp
  have HP := Lib.hid hp
  have HB2 := Lib.hid (HB.out.trans (Below.mono hb HB.out.size))
  clear hp hb
  go_wp2_with fail
  have HR := Lib.hid (RIs.new w.heap.size w2 HB2.out.size ⟨#[]⟩ rm 0)
  have HP2 := Lib.hid (HP.out.keep ((Kept.refl w2 (fun _ => False)).alloc (.cells #[.string ⟨#[]⟩, .int .i64 rm, .int .i64 0] 28)) (fun h => h) (fun _ _ h => h))
  have HB3 := Lib.hid (below_alloc HB2.out (.cells #[.string ⟨#[]⟩, .int .i64 rm, .int .i64 0] 28))
  have hgne : g1 < w2.heap.size := HP.out.lt
  clear hrm
  generalize w2.alloc (.cells #[.string ⟨#[]⟩, .int .i64 rm, .int .i64 0] 28) = w3 at *
  generalize w2.heap.size = g2 at *
  go_loopw [8] (fun i wr => ∃ (k : Nat) (S : ByteArray) (N : Int) (row : Option Nat), k ≤ len ∧ i = .int .i64 k ∧ 0 ≤ N ∧ N + S.size ≤ 60 * k ∧ (S.size : Int) ≤ rm ∧ row ≠ some g2 ∧ Hid (PIs w.heap.size g1 row S rm N wr) ∧ Hid (RIs w.heap.size g2 S rm N wr) ∧ Hid (Below w.heap.size w wr)) (fun i _ => len - (intOf i).toNat)
  case atStart => exact ⟨0, ⟨#[]⟩, 0, none, Nat.zero_le _, rfl, by decide, by decide, r0.1, by simp, HP2, HR, HB3⟩
  case round =>
    obtain ⟨k, S, N, row, hk, rfl, hN, hNS, hSr, hrow, HP, HR, HW⟩ := hrel
    by_cases hlt : k < len
    · obtain ⟨ad, n, s, rfl, n0, n1, hs, hc0, hc1⟩ := acts_at HA.out k hlt
      have HC0 := Lib.hid hc0
      have HC1 := Lib.hid hc1
      have h1 := hc1 _ HW.out
      have h0 := hc0 _ HW.out
      clear hc0 hc1
      by_cases hs60 : (s.size : Int) ≤ 60
      · have hd60 : decide (60 < (s.size : Int)) = false := decide_eq_false (by omega)
        by_cases hn : 0 ≤ n
        · have hdn : decide (0 ≤ n) = true := decide_eq_true hn
          obtain ⟨kk, hkk⟩ : ∃ kk : Nat, min (max n 0) (S.size : Int) = kk := ⟨(min (max n 0) (S.size : Int)).toNat, by omega⟩
          obtain ⟨X, hX⟩ : ∃ X, S.extract 0 kk = X := ⟨_, rfl⟩
          obtain ⟨S2, hS2⟩ : ∃ X, S.extract kk S.size = X := ⟨_, rfl⟩
          have hsz2 : S2.size = S.size - kk := by rw [← hS2, ba_size_extract]; omega
          have HKK := Lib.hid hkk
          have HX := Lib.hid hX
          have HS2 := Lib.hid hS2
          have HSZ2 := Lib.hid hsz2
          have hkS : kk ≤ S.size := by omega
          clear hkk hX hS2 hsz2
          go_wp2_with fail
          go_region_held3 (fun w' => w'.cell? (ad.add (k * 2)) = some (.int .i64 n)) (first | exact HC0.out _ HB6.out | exact HC0.out _ HB5.out | exact HC0.out _ HW.out | exact HC0.out _ (below_drew HW.out) | exact HC0.out _ (below_drew HB5.out))
            (first | (go_at_call 9; refine (Take_v w.heap.size g1 row S rm N n X S2 (N + kk) _ (by first | exact HP.out | exact PIs.drewN HP.out _) (by first | exact HW.out.size | exact (pw_below_drewN HW.out _).size) hSr (by omega) hN (by omega) (by rw [HKK.out]; exact HX.out) (by rw [HKK.out]; exact HS2.out) (by rw [HKK.out])).mono ?_; rintro r w5 ⟨rfl, hp5, hb5, hk5⟩; have HP5 := Lib.hid hp5; have HB5 := Lib.hid (show Below w.heap.size w w5 by first | exact HW.out.trans hb5 | exact (pw_below_drewN HW.out _).trans hb5); have HR5 := Lib.hid (show RIs w.heap.size g2 S rm N w5 by first | exact HR.out.keep hk5 (by rintro (h | h); omega; exact hrow h) | exact (RIs.drewN HR.out _).keep hk5 (by rintro (h | h); omega; exact hrow h)); clear hp5 hb5 hk5) | (go_at_call 10; refine (rTake_v w.heap.size g2 S rm N n kk X S2 _ (by first | exact HR5.out | exact RIs.drewN HR5.out _) (by omega) hN (by omega) HKK.out HX.out HS2.out).mono ?_; rintro r w6 ⟨rfl, hp6, hb6, hk6⟩; have HR6 := Lib.hid hp6; have HB6 := Lib.hid (show Below w.heap.size w w6 by first | exact HB5.out.trans hb6 | exact (pw_below_drewN HB5.out _).trans hb6); have HP6 := Lib.hid (show PIs w.heap.size g1 row S2 rm (N + kk) w6 by first | exact HP5.out.keep hk6 (by omega) (fun q hq h => hrow (by rw [hq, h])) | exact (PIs.drewN HP5.out _).keep hk6 (by omega) (fun q hq h => hrow (by rw [hq, h]))); clear hp6 hb6 hk6))
          obtain ⟨d0, d1, d2⟩ := ris_cells HR6.out
          have hw : IntKind.i64.wrap (rm - (S2.size : Int)) = rm - S2.size := by have := HSZ2.out; rw [IntKind.wrap_i64]; omega
          go_wp2_with fail
          go_quiet ((first | (go_at_call 13; exact Calls.quiet_of_same ((Len_q w.heap.size g1 row S2 rm _ _ (PIs.drewN HP6.out _)).mono fun _ _ h => ⟨h.1, h.2.symm⟩)) | (go_at_call 15; exact Calls.quiet_of_same ((Passed_q w.heap.size g1 row S2 rm _ _ (PIs.drewN HP6.out _)).mono fun _ _ h => ⟨h.1, h.2.symm⟩)) | (go_at_call 14; exact Calls.quiet_of (Room_q w.heap.size g1 row S2 rm _ _ (PIs.drewN HP6.out _) r0.1 r0.2 (by have := HSZ2.out; omega)))))
          clear d0 d1 d2 hw h0 h1
          go_wp2
          go_roundw
          case rel => exact ⟨k + 1, S2, N + kk, row, by omega, by simp, by omega, by have := HSZ2.out; push_cast; omega, by have := HSZ2.out; omega, hrow, Lib.hid (PIs.drewN HP6.out _), Lib.hid (RIs.drewN HR6.out _), Lib.hid (pw_below_drewN HB6.out _)⟩
          case measure => simp [intOf]; omega
        · have hdn : decide (0 ≤ n) = false := decide_eq_false hn
          obtain ⟨r, hr⟩ : ∃ r, min (s.size : Int) (rm - S.size) = r := ⟨_, rfl⟩
          obtain ⟨S2, hS2⟩ : ∃ X, S ++ s.extract 0 r.toNat = X := ⟨_, rfl⟩
          have hsz2 : S2.size = S.size + r.toNat := by rw [← hS2, ba_size_append, ba_size_extract]; omega
          have hr0 : 0 ≤ r ∧ r ≤ 60 ∧ S.size + r ≤ rm := by omega
          have HRR := Lib.hid hr
          have HS2 := Lib.hid hS2
          have HSZ2 := Lib.hid hsz2
          clear hr hS2 hsz2
          go_wp2_with fail
          go_region_held3 (fun w' => w'.cell? ⟨(ad.add (k * 2)).block, (ad.add (k * 2)).off + 1, none⟩ = some (.string s)) (first | exact HC1.out _ HB6.out | exact HC1.out _ HB5.out | exact HC1.out _ HW.out | exact HC1.out _ (below_drew HW.out) | exact HC1.out _ (below_drew HB5.out))
            (first | (go_at_call 11; refine (Put_v w.heap.size g1 row S rm N s r S2 _ (by first | exact HP.out | exact PIs.drewN HP.out _) (by first | exact HW.out.size | exact (pw_below_drewN HW.out _).size) hSr r0.2 (by omega) (by omega) HRR.out HS2.out).mono ?_; rintro x w5 ⟨rfl, row2, hp5, hrw5, hb5, hk5⟩; have HP5 := Lib.hid hp5; have HB5 := Lib.hid (show Below w.heap.size w w5 by first | exact HW.out.trans hb5 | exact (pw_below_drewN HW.out _).trans hb5); have HR5 := Lib.hid (show RIs w.heap.size g2 S rm N w5 by first | exact HR.out.keep hk5 (by rintro (h | h); omega; exact hrow h) | exact (RIs.drewN HR.out _).keep hk5 (by rintro (h | h); omega; exact hrow h)); have HRW := Lib.hid (show row2 ≠ some g2 from by rcases hrw5 with h | ⟨q, h, hq⟩; rw [h]; exact hrow; rw [h]; intro he; injection he with he; have := HR.out.lt; have hq' : wr.heap.size ≤ q := hq; omega); clear hp5 hb5 hk5 hrw5) | (go_at_call 12; refine (rPut_v w.heap.size g2 S rm N s r S2 _ (by first | exact HR5.out | exact RIs.drewN HR5.out _) hSr r0.2 (by omega) (by omega) HRR.out HS2.out).mono ?_; rintro x w6 ⟨rfl, hp6, hb6, hk6⟩; have HR6 := Lib.hid hp6; have HB6 := Lib.hid (show Below w.heap.size w w6 by first | exact HB5.out.trans hb6 | exact (pw_below_drewN HB5.out _).trans hb6); have HP6 := Lib.hid (show PIs w.heap.size g1 row2 S2 rm N w6 by first | exact HP5.out.keep hk6 (by omega) (fun q hq h => HRW.out (by rw [hq, h])) | exact (PIs.drewN HP5.out _).keep hk6 (by omega) (fun q hq h => HRW.out (by rw [hq, h]))); clear hp6 hb6 hk6))
          obtain ⟨d0, d1, d2⟩ := ris_cells HR6.out
          have hw : IntKind.i64.wrap (rm - (S2.size : Int)) = rm - S2.size := by have := HSZ2.out; rw [IntKind.wrap_i64]; omega
          go_wp2_with fail
          go_quiet ((first | (go_at_call 13; exact Calls.quiet_of_same ((Len_q w.heap.size g1 row2 S2 rm _ _ (PIs.drewN HP6.out _)).mono fun _ _ h => ⟨h.1, h.2.symm⟩)) | (go_at_call 15; exact Calls.quiet_of_same ((Passed_q w.heap.size g1 row2 S2 rm _ _ (PIs.drewN HP6.out _)).mono fun _ _ h => ⟨h.1, h.2.symm⟩)) | (go_at_call 14; exact Calls.quiet_of (Room_q w.heap.size g1 row2 S2 rm _ _ (PIs.drewN HP6.out _) r0.1 r0.2 (by have := HSZ2.out; omega)))))
          clear d0 d1 d2 hw h0 h1
          go_wp2
          go_roundw
          case rel => exact ⟨k + 1, S2, N, row2, by omega, by simp, by omega, by have := HSZ2.out; push_cast; omega, by have := HSZ2.out; omega, HRW.out, Lib.hid (PIs.drewN HP6.out _), Lib.hid (RIs.drewN HR6.out _), Lib.hid (pw_below_drewN HB6.out _)⟩
          case measure => simp [intOf]; omega
      · have hd60 : decide (60 < (s.size : Int)) = true := decide_eq_true (by omega)
        go_wp2_with fail
        go_ret
        exact ⟨rfl, HW.out⟩
    · have hd : decide ((k : Int) < len) = false := decide_eq_false (by omega)
      go_wp2_with fail
      refine (Take_v w.heap.size g1 row S rm N (-1) ⟨#[]⟩ S N _ HP.out HW.out.size hSr (by omega) hN (by omega) (by rw [show (min (max (-1) 0) (S.size : Int)).toNat = 0 by omega]; exact ba_ext (by rw [ba_extract]; rfl)) (by rw [show (min (max (-1) 0) (S.size : Int)).toNat = 0 by omega]; exact ba_extract_all _ _ (Nat.le_refl _)) (by omega)).mono ?_
      rintro e w5 ⟨rfl, _, hb5, _⟩
      have HB5 := Lib.hid (HW.out.trans hb5)
      clear hb5
      go_wp2
      go_ret
      exact ⟨rfl, HB5.out⟩
end Go.Proofs.Ytogmfibilopppaa.H
