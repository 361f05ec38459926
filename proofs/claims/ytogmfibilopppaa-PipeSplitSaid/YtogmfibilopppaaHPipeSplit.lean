/- PipeSplit: bytes put in, or taken, in two pieces are as those put in, or taken, at once. No condition. -/
import Derived.Test.YtogmfibilopppaaPW
namespace Go.Proofs.Ytogmfibilopppaa.H
open Go.RowKit Go.Proofs.YtogmfibilopppaaW.PrintWords Go.Proofs.YtogmfibilopppaaW.PrintLast Go.Proofs.YtogmfibilopppaaW.PrintMore Go.Proofs.Ytogmfibilopppaa.Q Go.Proofs.Ytogmfibilopppaa.BL Go.Proofs.Ytogmfibilopppaa.B Go.Proofs.Ytogmfibilopppaa.PI
set_option linter.unusedVariables false
set_option linter.unusedSimpArgs false
theorem put_two (a b : ByteArray) (rm x y z : Int) (hr : 0 ≤ rm) (hx : min (a.size : Int) rm = x) (hy : min (b.size : Int) (rm - x) = y) (hz : min ((a.size : Int) + b.size) rm = z) :
    x + y = z ∧ a.extract 0 x.toNat ++ b.extract 0 y.toNat = (a ++ b).extract 0 z.toNat := by
  refine ⟨by omega, ?_⟩
  by_cases h : (a.size : Int) ≤ rm
  · rw [show x.toNat = a.size by omega, show z.toNat = a.size + y.toNat by omega, ba_extract_all _ _ (Nat.le_refl _), ← ba_extract_split (a ++ b) 0 a.size (a.size + y.toNat) (Nat.zero_le _) (by omega), ba_extract_append_left _ _ _ _ (Nat.le_refl _), ba_extract_append_right _ _ _ _ (Nat.le_refl _), ba_extract_all _ _ (Nat.le_refl _), Nat.sub_self, Nat.add_sub_cancel_left]
  · rw [show y.toNat = 0 by omega, show b.extract 0 0 = ⟨#[]⟩ from ba_ext (by rw [ba_extract]; rfl), ba_append_nil, show x.toNat = z.toNat by omega, ba_extract_append_left _ _ _ _ (by omega)]
theorem take_two (S : ByteArray) (n m k1 k2 k3 : Nat) (h1 : min n S.size = k1) (h2 : min m (S.size - k1) = k2) (h3 : min (n + m) S.size = k3) :
    k1 + k2 = k3 ∧ S.extract 0 k1 ++ (S.extract k1 S.size).extract 0 k2 = S.extract 0 k3 ∧ ((S.extract k1 S.size).extract k2 (S.size - k1)).size = S.size - k3 := by
  have h4 : (S.extract k1 S.size).size = S.size - k1 := by rw [ba_size_extract]; omega
  refine ⟨by omega, ?_, by rw [ba_size_extract, h4]; omega⟩
  rw [show (S.extract k1 S.size).extract 0 k2 = S.extract k1 k3 from ba_ext (by
    rw [ba_extract, ba_extract, ba_extract, List.drop_zero, List.take_drop, List.take_take, show min (k1 + k2) S.size = k3 by omega]), ba_extract_split _ _ _ _ (Nat.zero_le _) (by omega)]
set_option maxHeartbeats 4000000 in
set_option maxRecDepth 100000 in
theorem PipeSplit_walk (room : Int) (a b : ByteArray) (n m : Int) (w : World) (hro : (Lit.int .i64 room).wf = true) (hsa : a.size ≤ 140737488351232) (hsb : b.size ≤ 140737488351232) (hn : (Lit.int .i64 n).wf = true) (hm : (Lit.int .i64 m).wf = true) :
    Calls Try.prog 5 #[.int .i64 room, .string a, .string b, .int .i64 n, .int .i64 m] w fun e w' => e = .returned (.bool true) ∧ Below w.heap.size w w' := by
  obtain ⟨o0, o1⟩ := wf64 hro
  obtain ⟨n0, n1⟩ := wf64 hn
  obtain ⟨m0, m1⟩ := wf64 hm
  clear hro hn hm
  go_enter Try.func5, Try.ntmps5
  go_wp2_with fail
  refine (works_c _).mono ?_
  rintro e w1 ⟨rfl, hb⟩
  have HB := Lib.hid hb
  clear hb
  go_wp2_with fail
  all_goals first
    | (go_ret; exact ⟨rfl, HB.out⟩)
    | skip
  have hg : (((((a.size : Int) ≤ 60 ∧ (b.size : Int) ≤ 60) ∧ 0 ≤ n) ∧ 0 ≤ m) ∧ n ≤ 1000) ∧ m ≤ 1000 := by assumption
  obtain ⟨⟨⟨⟨⟨ga, gb⟩, gn⟩, gm⟩, gn2⟩, gm2⟩ := hg
  obtain ⟨rm, hrm⟩ : ∃ rm, max room 0 = rm := ⟨_, rfl⟩
  have r0 : 0 ≤ rm ∧ rm ≤ 9223372036854775807 := by omega
  have HRM := Lib.hid hrm
  clear hrm
  obtain ⟨x, hx⟩ : ∃ x, min (a.size : Int) rm = x := ⟨_, rfl⟩
  obtain ⟨y, hy⟩ : ∃ y, min (b.size : Int) (rm - x) = y := ⟨_, rfl⟩
  obtain ⟨z, hz⟩ : ∃ z, min ((a.size : Int) + b.size) rm = z := ⟨_, rfl⟩
  obtain ⟨hxyz, hS⟩ := put_two a b rm x y z r0.1 hx hy hz
  obtain ⟨S1, hS1⟩ : ∃ S1, a.extract 0 x.toNat = S1 := ⟨_, rfl⟩
  obtain ⟨S, hS2⟩ : ∃ S, (a ++ b).extract 0 z.toNat = S := ⟨_, rfl⟩
  have hz1 : S1.size = x.toNat := by rw [← hS1, ba_size_extract]; omega
  have hz2 : S.size = z.toNat := by rw [← hS2, ba_size_extract, ba_size_append]; omega
  rw [hS1, hS2] at hS
  have x0 : 0 ≤ x ∧ x ≤ 60 ∧ x ≤ rm := by omega
  have z0 : 0 ≤ z ∧ z ≤ 120 ∧ z ≤ rm := by omega
  have hw1 : IntKind.i64.wrap (x + y) = x + y := by rw [IntKind.wrap_i64]; omega
  have hw2 : IntKind.i64.wrap (n + m) = n + m := by rw [IntKind.wrap_i64]; omega
  have HX := Lib.hid hx
  have HY := Lib.hid hy
  have HZ := Lib.hid hz
  have HXY := Lib.hid hxyz
  have HS := Lib.hid hS
  have HS1 := Lib.hid hS1
  have HS2 := Lib.hid hS2
  have HZ1 := Lib.hid hz1
  have HZ2 := Lib.hid hz2
  clear hx hy hz hS hS1 hS2 hz1 hz2 hxyz
  obtain ⟨k1, hk1⟩ : ∃ k : Nat, min n.toNat S.size = k := ⟨_, rfl⟩
  obtain ⟨k2, hk2⟩ : ∃ k : Nat, min m.toNat (S.size - k1) = k := ⟨_, rfl⟩
  obtain ⟨k3, hk3⟩ : ∃ k : Nat, min (n.toNat + m.toNat) S.size = k := ⟨_, rfl⟩
  obtain ⟨hk, hu, hl⟩ := take_two S n.toNat m.toNat k1 k2 k3 hk1 hk2 hk3
  obtain ⟨s1, hs1⟩ : ∃ s, S.extract 0 k1 = s := ⟨_, rfl⟩
  obtain ⟨T1, hT1⟩ : ∃ s, S.extract k1 S.size = s := ⟨_, rfl⟩
  have ht1 : T1.size = S.size - k1 := by rw [← hT1, ba_size_extract]; omega
  obtain ⟨s2, hs2⟩ : ∃ s, T1.extract 0 k2 = s := ⟨_, rfl⟩
  obtain ⟨T2, hT2⟩ : ∃ s, T1.extract k2 (S.size - k1) = s := ⟨_, rfl⟩
  obtain ⟨u, hu3⟩ : ∃ s, S.extract 0 k3 = s := ⟨_, rfl⟩
  obtain ⟨T3, hT3⟩ : ∃ s, S.extract k3 S.size = s := ⟨_, rfl⟩
  have ht3 : T3.size = S.size - k3 := by rw [← hT3, ba_size_extract]; omega
  have hss : S.size ≤ 120 := by have := HZ2.out; omega
  rw [hT1, hs1, hs2, hu3] at hu
  rw [hT1, hT2] at hl
  have HU := Lib.hid hu
  have HK := Lib.hid (show min (max n 0) (S.size : Int) = k1 by omega)
  have HK2 := Lib.hid (show min (max m 0) (T1.size : Int) = k2 by omega)
  have HK3 := Lib.hid (show min (max (n + m) 0) (S.size : Int) = k3 by omega)
  have HKS := Lib.hid hk
  have HL := Lib.hid hl
  have HT1 := Lib.hid ht1
  have HT3 := Lib.hid ht3
  have E1 := Lib.hid hs1
  have E2 := Lib.hid hT1
  have E3 := Lib.hid hs2
  have E4 := Lib.hid hT2
  have E5 := Lib.hid hu3
  have E6 := Lib.hid hT3
  have hcap : s1.size + s2.size ≤ 9223372036854775807 := by rw [← E1.out, ← E3.out, ba_size_extract, ba_size_extract]; omega
  have hrs : (S.size : Int) ≤ rm := by have := HZ2.out; omega
  have hk1s : k1 ≤ 120 ∧ k2 ≤ 120 := by omega
  clear hk1 hk2 hk3 hk hu hl ht1 ht3 hs1 hT1 hs2 hT2 hu3 hT3
  refine (New_c room w.heap.size _ HB.out.size).mono ?_
  rintro e w2 ⟨g1, rfl, hp, hg, hb⟩
  rw [HRM.out] at hp
  have HP := Lib.hid hp
  have HB2 := Lib.hid (HB.out.trans (Below.mono hb HB.out.size))
  clear hp hb hg
  go_wp2_with fail
  refine (New_c room w.heap.size _ HB2.out.size).mono ?_
  rintro e w3 ⟨g2, rfl, hq, hg, hb⟩
  rw [HRM.out] at hq
  have HQ := Lib.hid hq
  have HP2 := Lib.hid (HP.out.keep (Kept.of_below hb (fun _ => False)) (fun h => h) (fun _ _ h => h))
  have HB3 := Lib.hid (HB2.out.trans (Below.mono hb HB2.out.size))
  have HSep : Hid (Sep g1 none g2 none) := Lib.hid ⟨by have := HP.out.lt; omega, by simp, by simp, by simp⟩
  clear hq hb hg
  go_wp2_with fail
  refine (Put_v w.heap.size g1 none ⟨#[]⟩ rm 0 a x S1 _ HP2.out HB3.out.size r0.1 r0.2 (by decide) (by omega) (by have := HX.out; rw [show ((⟨#[]⟩ : ByteArray).size : Int) = 0 from rfl]; omega) (by rw [ba_nil_append]; exact HS1.out)).mono ?_
  rintro e w4 ⟨rfl, r1, hp, hr, hb, hkk⟩
  have HP3 := Lib.hid hp
  have HQ2 := Lib.hid (HQ.out.sep hkk HSep.out)
  have HSep2 := Lib.hid (HSep.out.put hr HP2.out.lt HQ.out.lt (fun _ h => by cases h))
  have HB4 := Lib.hid (HB3.out.trans hb)
  clear hp hr hb hkk
  go_wp2_with fail
  refine (Put_v w.heap.size g1 r1 S1 rm 0 b y S _ HP3.out HB4.out.size (by have := HZ1.out; omega) r0.2 (by have := HZ1.out; omega) (by omega) (by have := HY.out; rw [HZ1.out]; omega) (by rw [← HS.out])).mono ?_
  rintro e w5 ⟨rfl, r2, hp, hr, hb, hkk⟩
  have HP4 := Lib.hid hp
  have HQ3 := Lib.hid (HQ2.out.sep hkk HSep2.out)
  have HSep3 := Lib.hid (HSep2.out.put hr HP3.out.lt HQ2.out.lt (fun _ h => by cases h))
  have HB5 := Lib.hid (HB4.out.trans hb)
  clear hp hr hb hkk
  go_wp2_with fail
  refine (Put_v w.heap.size g2 none ⟨#[]⟩ rm 0 (a ++ b) z S _ HQ3.out HB5.out.size r0.1 r0.2 (by decide) (by rw [ba_size_append]; omega) (by have := HZ.out; rw [show ((⟨#[]⟩ : ByteArray).size : Int) = 0 from rfl, ba_size_append]; omega) (by rw [ba_nil_append]; exact HS2.out)).mono ?_
  rintro e w6 ⟨rfl, r3, hq, hr, hb, hkk⟩
  have HQ4 := Lib.hid hq
  have HP5 := Lib.hid (HP4.out.sep hkk HSep3.out.symm)
  have HSep4 := Lib.hid (HSep3.out.symm.put hr HQ3.out.lt HP4.out.lt (fun k h => (HP4.out.row_lt k h).1))
  have HB6 := Lib.hid (HB5.out.trans hb)
  clear hq hr hb hkk
  have hxy := HXY.out
  go_wp2_with fail
  refine (Len_q w.heap.size g1 r2 S rm 0 _ HP5.out).mono ?_
  rintro e _ ⟨rfl, rfl⟩
  go_wp2_with fail
  refine (Len_q w.heap.size g2 r3 S rm 0 _ HQ4.out).mono ?_
  rintro e _ ⟨rfl, rfl⟩
  clear hxy
  go_wp2_with fail
  refine (Take_v w.heap.size g1 r2 S rm 0 n s1 T1 k1 _ HP5.out HB6.out.size hrs (by omega) (by decide) (by decide) (by rw [HK.out]; exact E1.out) (by rw [HK.out]; exact E2.out) (by rw [HK.out]; omega)).mono ?_
  rintro e w7 ⟨rfl, hp, hb, hkk⟩
  have HP6 := Lib.hid hp
  have HQ5 := Lib.hid (HQ4.out.sep hkk HSep4.out.symm)
  have HB7 := Lib.hid (HB6.out.trans hb)
  clear hp hb hkk
  go_wp2_with fail
  have ht1s : T1.size ≤ S.size := by have := HT1.out; omega
  refine (Take_v w.heap.size g1 r2 T1 rm k1 m s2 T2 k3 _ HP6.out HB7.out.size (by omega) (by omega) (by omega) (by omega) (by rw [HK2.out]; exact E3.out) (by rw [HK2.out, HT1.out]; exact E4.out) (by rw [HK2.out]; have := HKS.out; omega)).mono ?_
  rintro e w8 ⟨rfl, hp, hb, hkk⟩
  have HP7 := Lib.hid hp
  have HQ6 := Lib.hid (HQ5.out.sep hkk HSep4.out.symm)
  have HB8 := Lib.hid (HB7.out.trans hb)
  clear hp hb hkk
  go_wp2_with fail
  refine (Take_v w.heap.size g2 r3 S rm 0 (n + m) u T3 k3 _ HQ6.out HB8.out.size hrs (by omega) (by decide) (by decide) (by rw [HK3.out]; exact E5.out) (by rw [HK3.out]; exact E6.out) (by rw [HK3.out]; omega)).mono ?_
  rintro e w9 ⟨rfl, hq, hb, hkk⟩
  have HQ7 := Lib.hid hq
  have HP8 := Lib.hid (HP7.out.sep hkk HSep4.out)
  have HB9 := Lib.hid (HB8.out.trans hb)
  clear hq hb hkk
  have hu := HU.out
  go_wp2_with fail
  refine (Len_q w.heap.size g1 r2 T2 rm k3 _ HP8.out).mono ?_
  rintro e _ ⟨rfl, rfl⟩
  go_wp2_with fail
  refine (Len_q w.heap.size g2 r3 T3 rm k3 _ HQ7.out).mono ?_
  rintro e _ ⟨rfl, rfl⟩
  have hl1 := HL.out
  have hl2 := HT3.out
  go_wp2_with fail
  refine (Passed_q w.heap.size g1 r2 T2 rm k3 _ HP8.out).mono ?_
  rintro e _ ⟨rfl, rfl⟩
  go_wp2_with fail
  refine (Passed_q w.heap.size g2 r3 T3 rm k3 _ HQ7.out).mono ?_
  rintro e _ ⟨rfl, rfl⟩
  go_wp2
  go_ret
  exact ⟨rfl, HB9.out⟩
end Go.Proofs.Ytogmfibilopppaa.H
