/- PipeOrder: what is taken is what was put in, in its order. No condition. -/
-- OPEN 1 Go.Proofs.Ytogmfibilopppaa.PI.open_acts a len cap z : w y
import Derived.Test.YtogmfibilopppaaAC
namespace Go.Proofs.Ytogmfibilopppaa.H
open Go.RowKit Go.Proofs.YtogmfibilopppaaW.PrintWords Go.Proofs.YtogmfibilopppaaW.PrintLast Go.Proofs.YtogmfibilopppaaW.PrintMore Go.Proofs.Ytogmfibilopppaa.Q Go.Proofs.Ytogmfibilopppaa.BL Go.Proofs.Ytogmfibilopppaa.B Go.Proofs.Ytogmfibilopppaa.PI
set_option linter.unusedVariables false
set_option linter.unusedSimpArgs false
set_option maxHeartbeats 4000000 in
set_option maxRecDepth 100000 in
theorem PipeOrder_walk (room : Int) (a : Option Addr) (len cap : Nat) (zs : List (Int × ByteArray)) (w : World) (hro : (Lit.int .i64 room).wf = true) (hlen : len ≤ maxLen) (hz : IsActs w a len zs) :
    Calls Try.prog 4 #[.int .i64 room, .slice a len cap] w fun e w' => e = .returned (.bool true) ∧ Below w.heap.size w w' := by
  obtain ⟨o0, o1⟩ := wf64 hro
  have hlen2 : len ≤ 9223372036854775807 := by unfold maxLen at hlen; omega
  have HA := Lib.hid hz
  clear hro hlen hz
  go_enter Try.func4, Try.ntmps4
  go_wp2_with fail
  refine (works_c _).mono ?_
  rintro e w1 ⟨rfl, hb⟩
  have HB := Lib.hid hb
  clear hb
  go_wp2_with fail
  all_goals first
    | (go_ret; exact ⟨rfl, HB.out⟩)
    | skip
  have hg : (len : Int) ≤ 60 := by assumption
  obtain ⟨rm, hrm⟩ : ∃ rm, max room 0 = rm := ⟨_, rfl⟩
  have r0 : 0 ≤ rm ∧ rm ≤ 9223372036854775807 := by omega
  have HRM := Lib.hid hrm
  clear hrm
  refine (New_c room w.heap.size _ HB.out.size).mono ?_
  rintro e w2 ⟨g1, rfl, hp, hg1, hb⟩
  rw [HRM.out] at hp
  have HP := Lib.hid hp
  have HB2 := Lib.hid (HB.out.trans (Below.mono hb HB.out.size))
  clear hp hb
  go_wp2_with fail
  go_loopw [7, 8, 9] (fun p7 p8 p9 wr => ∃ (k : Nat) (S : ByteArray) (N : Int) (row : Option Nat) (inn out : ByteArray), k ≤ len ∧ p9 = .int .i64 k ∧ p7 = .string inn ∧ p8 = .string out ∧ 0 ≤ N ∧ N + S.size ≤ 60 * k ∧ (S.size : Int) ≤ rm ∧ (out.size : Int) = N ∧ Hid (out ++ S = inn) ∧ Hid (PIs w.heap.size g1 row S rm N wr) ∧ Hid (Below w.heap.size w wr)) (fun _ _ i _ => len - (intOf i).toNat)
  case atStart => exact ⟨0, ⟨#[]⟩, 0, none, ⟨#[]⟩, ⟨#[]⟩, Nat.zero_le _, rfl, rfl, rfl, by decide, by decide, r0.1, rfl, Lib.hid (ba_append_nil _), HP, HB2⟩
  case round =>
    obtain ⟨k, S, N, row, inn, out, hk, rfl, rfl, rfl, hN, hNS, hSr, hoN, HCAT, HP, HW⟩ := hrel
    have hinsz : (inn.size : Int) = N + S.size := by rw [← HCAT.out, ba_size_append]; push_cast; omega
    by_cases hlt : k < len
    · obtain ⟨ad, n, s, rfl, n0, n1, hs, hc0, hc1⟩ := acts_at HA.out k hlt
      have HC0 := Lib.hid hc0
      have HC1 := Lib.hid hc1
      have h1 := hc1 _ HW.out
      have h0 := hc0 _ HW.out
      clear hc0 hc1
      by_cases hs60 : (s.size : Int) ≤ 60
      · have hd60 : decide (60 < (s.size : Int)) = false := decide_eq_false (by omega)
        by_cases hn : 0 ≤ n
        · have hdn : decide (0 ≤ n) = true := decide_eq_true hn
          obtain ⟨kk, hkk⟩ : ∃ kk : Nat, min (max n 0) (S.size : Int) = kk := ⟨(min (max n 0) (S.size : Int)).toNat, by omega⟩
          obtain ⟨X, hX⟩ : ∃ X, S.extract 0 kk = X := ⟨_, rfl⟩
          obtain ⟨S2, hS2⟩ : ∃ X, S.extract kk S.size = X := ⟨_, rfl⟩
          have hkS : kk ≤ S.size := by omega
          have hsz2 : S2.size = S.size - kk := by rw [← hS2, ba_size_extract]; omega
          have hX2 : X.size = kk := by rw [← hX, ba_size_extract]; omega
          have hcat2 : (out ++ X) ++ S2 = inn := by rw [ba_append_assoc, ← hX, ← hS2, ba_extract_split _ _ _ _ (Nat.zero_le _) hkS, ba_extract_all _ _ (Nat.le_refl _)]; exact HCAT.out
          obtain ⟨out2, hout2⟩ : ∃ o, out ++ X = o := ⟨_, rfl⟩
          have hos : (out2.size : Int) = N + kk := by rw [← hout2, ba_size_append]; push_cast; omega
          have hcap : out.size + X.size ≤ 9223372036854775807 := by omega
          rw [hout2] at hcat2
          have HKK := Lib.hid hkk
          have HX := Lib.hid hX
          have HS2 := Lib.hid hS2
          have HSZ2 := Lib.hid hsz2
          have HCAT2 := Lib.hid hcat2
          have HO2 := Lib.hid hout2
          have HOS := Lib.hid hos
          clear hkk hX hS2 hsz2 hcat2 hX2 hout2 hos
          go_wp2_with fail
          refine (Take_v w.heap.size g1 row S rm N n X S2 (N + kk) _ HP.out HW.out.size hSr (by omega) hN (by omega) (by rw [HKK.out]; exact HX.out) (by rw [HKK.out]; exact HS2.out) (by rw [HKK.out])).mono ?_
          rintro r w5 ⟨rfl, hp5, hb5, _⟩
          have HP6 := Lib.hid hp5
          have HB5 := Lib.hid (HW.out.trans hb5)
          have HB6 := HB5
          clear hp5 hb5
          have hout2 := HO2.out
          go_wp2_with fail
          refine (Len_q w.heap.size g1 row S2 rm (N + kk) _ HP6.out).mono ?_
          rintro e _ ⟨rfl, rfl⟩
          have hrm := HRM.out
          have hle : decide (rm < (S2.size : Int)) = false := decide_eq_false (by have := HSZ2.out; omega)
          go_wp2_with fail
          refine (Len_q w.heap.size g1 row S2 rm (N + kk) _ HP6.out).mono ?_
          rintro e _ ⟨rfl, rfl⟩
          go_wp2_with fail
          refine (Room_q w.heap.size g1 row S2 rm (N + kk) _ HP6.out r0.1 r0.2 (by have := HSZ2.out; omega)).mono ?_
          rintro e _ ⟨rfl, q, rfl⟩
          have hw1 : IntKind.i64.wrap ((S2.size : Int) + (rm - S2.size)) = rm := by rw [IntKind.wrap_i64]; omega
          have hw2 : IntKind.i64.wrap rm = rm := by rw [IntKind.wrap_i64]; omega
          go_wp2
          clear hrm hw1 hw2 hle
          go_roundw
          case rel => exact ⟨k + 1, S2, (N + kk), row, inn, out2, by omega, by simp, rfl, rfl, by omega, by have := HSZ2.out; push_cast; omega, by have := HSZ2.out; omega, by exact HOS.out, HCAT2, Lib.hid (by first | exact PIs.drewN HP6.out _ | exact HP6.out), Lib.hid (by first | exact pw_below_drewN HB6.out _ | exact pw_below_drewN HB5.out _)⟩
          case measure => simp [intOf]; omega

        · have hdn : decide (0 ≤ n) = false := decide_eq_false hn
          obtain ⟨r, hr⟩ : ∃ r : Nat, min (s.size : Int) (rm - S.size) = r := ⟨(min (s.size : Int) (rm - S.size)).toNat, by omega⟩
          obtain ⟨S2, hS2⟩ : ∃ X, S ++ s.extract 0 r = X := ⟨_, rfl⟩
          have hsz2 : S2.size = S.size + r := by rw [← hS2, ba_size_append, ba_size_extract]; omega
          have hr0 : r ≤ s.size ∧ S.size + r ≤ rm := by omega
          have hrz : (r : Int) < s.size → rm - (S2.size : Int) = 0 := by omega
          obtain ⟨in2, hin2⟩ : ∃ o, inn ++ s.extract 0 r = o := ⟨_, rfl⟩
          have hcat2 : out ++ S2 = in2 := by rw [← hS2, ← ba_append_assoc, HCAT.out, hin2]
          have hcap : inn.size + (s.extract 0 r).size ≤ 9223372036854775807 := by rw [ba_size_extract]; omega
          have b1 : (0 : Int) ≤ (r : Int) := by omega
          have b2 : (r : Int) ≤ (s.size : Int) := by omega
          have b3 : decide ((r : Int) < 0) = false := decide_eq_false (by omega)
          have b4 : decide ((s.size : Int) < r) = false := decide_eq_false (by omega)
          have HRR := Lib.hid hr
          have HS2 := Lib.hid hS2
          have HSZ2 := Lib.hid hsz2
          have HCAT2 := Lib.hid hcat2
          have HI2 := Lib.hid hin2
          have HRZ := Lib.hid hrz
          clear hr hS2 hsz2 hcat2 hin2 hrz
          go_wp2_with fail
          refine (Put_v w.heap.size g1 row S rm N s r S2 _ HP.out HW.out.size hSr r0.2 (by omega) (by omega) HRR.out (by rw [Int.toNat_natCast]; exact HS2.out)).mono ?_
          rintro x w5 ⟨rfl, row2, hp5, _, hb5, _⟩
          have HP6 := Lib.hid hp5
          have HB5 := Lib.hid (HW.out.trans hb5)
          have HB6 := HB5
          clear hp5 hb5 h1 h0
          have h1 := HC1.out _ HB6.out
          by_cases hrs : (r : Int) < s.size
          · have hd : decide ((r : Int) < s.size) = true := decide_eq_true hrs
            go_wp2_with fail
            refine (Room_q w.heap.size g1 row2 S2 rm N _ HP6.out r0.1 r0.2 (by have := HSZ2.out; omega)).mono ?_
            rintro e _ ⟨rfl, q, rfl⟩
            have HP6 := Lib.hid (PIs.drewN HP6.out q)
            have HB6 := Lib.hid (pw_below_drewN HB6.out q)
            have hz := HRZ.out hrs
            clear h1
            have h1 := HC1.out _ HB6.out
            have hin2 := HI2.out
            go_wp2_with fail
            clear hz
            refine (Len_q w.heap.size g1 row2 S2 rm N _ HP6.out).mono ?_
            rintro e _ ⟨rfl, rfl⟩
            have hrm := HRM.out
            have hle : decide (rm < (S2.size : Int)) = false := decide_eq_false (by have := HSZ2.out; omega)
            go_wp2_with fail
            refine (Len_q w.heap.size g1 row2 S2 rm N _ HP6.out).mono ?_
            rintro e _ ⟨rfl, rfl⟩
            go_wp2_with fail
            refine (Room_q w.heap.size g1 row2 S2 rm N _ HP6.out r0.1 r0.2 (by have := HSZ2.out; omega)).mono ?_
            rintro e _ ⟨rfl, q, rfl⟩
            have hw1 : IntKind.i64.wrap ((S2.size : Int) + (rm - S2.size)) = rm := by rw [IntKind.wrap_i64]; omega
            have hw2 : IntKind.i64.wrap rm = rm := by rw [IntKind.wrap_i64]; omega
            go_wp2
            clear hrm hw1 hw2 hle
            go_roundw
            case rel => exact ⟨k + 1, S2, N, row2, in2, out, by omega, by simp, rfl, rfl, by omega, by have := HSZ2.out; push_cast; omega, by have := HSZ2.out; omega, by exact hoN, HCAT2, Lib.hid (by first | exact PIs.drewN HP6.out _ | exact HP6.out), Lib.hid (by first | exact pw_below_drewN HB6.out _ | exact pw_below_drewN HB5.out _)⟩
            case measure => simp [intOf]; omega
          · have hd : decide ((r : Int) < s.size) = false := decide_eq_false hrs
            have hin2 := HI2.out
            go_wp2_with fail
            refine (Len_q w.heap.size g1 row2 S2 rm N _ HP6.out).mono ?_
            rintro e _ ⟨rfl, rfl⟩
            have hrm := HRM.out
            have hle : decide (rm < (S2.size : Int)) = false := decide_eq_false (by have := HSZ2.out; omega)
            go_wp2_with fail
            refine (Len_q w.heap.size g1 row2 S2 rm N _ HP6.out).mono ?_
            rintro e _ ⟨rfl, rfl⟩
            go_wp2_with fail
            refine (Room_q w.heap.size g1 row2 S2 rm N _ HP6.out r0.1 r0.2 (by have := HSZ2.out; omega)).mono ?_
            rintro e _ ⟨rfl, q, rfl⟩
            have hw1 : IntKind.i64.wrap ((S2.size : Int) + (rm - S2.size)) = rm := by rw [IntKind.wrap_i64]; omega
            have hw2 : IntKind.i64.wrap rm = rm := by rw [IntKind.wrap_i64]; omega
            go_wp2
            clear hrm hw1 hw2 hle
            go_roundw
            case rel => exact ⟨k + 1, S2, N, row2, in2, out, by omega, by simp, rfl, rfl, by omega, by have := HSZ2.out; push_cast; omega, by have := HSZ2.out; omega, by exact hoN, HCAT2, Lib.hid (by first | exact PIs.drewN HP6.out _ | exact HP6.out), Lib.hid (by first | exact pw_below_drewN HB6.out _ | exact pw_below_drewN HB5.out _)⟩
            case measure => simp [intOf]; omega

      · have hd60 : decide (60 < (s.size : Int)) = true := decide_eq_true (by omega)
        go_wp2_with fail
        go_ret
        exact ⟨rfl, HW.out⟩
    · have hd : decide ((k : Int) < len) = false := decide_eq_false (by omega)
      go_wp2_with fail
      refine (Len_q w.heap.size g1 row S rm N _ HP.out).mono ?_
      rintro e _ ⟨rfl, rfl⟩
      obtain ⟨S3, hS3⟩ : ∃ X, S.extract S.size S.size = X := ⟨_, rfl⟩
      have hz3 : S3.size = 0 := by rw [← hS3, ba_size_extract]; omega
      have HS3 := Lib.hid hS3
      have hcap : out.size + S.size ≤ 9223372036854775807 := by omega
      clear hS3
      go_wp2_with fail
      refine (Take_v w.heap.size g1 row S rm N S.size S S3 (N + S.size) _ HP.out HW.out.size hSr (by omega) hN (by omega) (by rw [show (min (max (S.size : Int) 0) (S.size : Int)).toNat = S.size by omega]; exact ba_extract_all _ _ (Nat.le_refl _)) (by rw [show (min (max (S.size : Int) 0) (S.size : Int)).toNat = S.size by omega]; exact HS3.out) (by omega)).mono ?_
      rintro e w5 ⟨rfl, hp5, hb5, _⟩
      have HP5 := Lib.hid hp5
      have HB5 := Lib.hid (HW.out.trans hb5)
      clear hb5 hp5
      have hcat := HCAT.out
      go_wp2_with fail
      refine (Len_q w.heap.size g1 row S3 rm _ _ HP5.out).mono ?_
      rintro e _ ⟨rfl, rfl⟩
      go_wp2_with fail
      refine (Passed_q w.heap.size g1 row S3 rm _ _ HP5.out).mono ?_
      rintro e _ ⟨rfl, rfl⟩
      go_wp2
      go_ret
      exact ⟨rfl, HB5.out⟩
end Go.Proofs.Ytogmfibilopppaa.H
