/- ClientmsgParses: the first message of any bytes, or what is wrong, and whether they greet, is just what the document says. No condition. -/
import Derived.Test.YtclikkhkhoicfaaDPJ
import Derived.Test.YtclikkhkhoicfaaSMC
import Derived.Deep.DeepCutAuto
import Derived.Deep.RegionHeld3
import Derived.Test.YtclikkhkhoicfaaXx22
import Derived.Test.YtclikkhkhoicfaaXx21
import Derived.Test.YtclikkhkhoicfaaXx29
namespace Go.Proofs.Ytclikkhkhoicfaa.H
open Go.RowKit Go.Proofs.YtclikkhkhoicfaaW.PrintWords Go.Proofs.YtclikkhkhoicfaaW.PrintLast Go.Proofs.YtclikkhkhoicfaaW.PrintMore Go.Proofs.Ytclikkhkhoicfaa.B Go.Proofs.Ytclikkhkhoicfaa.O Go.Proofs.Ytclikkhkhoicfaa.F Go.Proofs.Ytclikkhkhoicfaa.X
set_option linter.unusedVariables false
set_option linter.unusedSimpArgs false
theorem parse_zt (s : ByteArray) (x : P21) (e : clientmsg_Parse.f s = some x) (he : xE x ≠ 0) : x = zt (xE x) := by
  rw [parse_eq] at e
  obtain ⟨⟨n, q⟩, e1, e⟩ := Option.bind_eq_some_iff.1 e
  unfold pTail at e
  by_cases hc : q.ce = 0
  · rw [if_pos hc] at e
    by_cases hk : K n
    · rw [if_pos hk] at e
      obtain ⟨⟨m, p⟩, e2, e⟩ := Option.bind_eq_some_iff.1 e
      unfold pEnd at e
      by_cases h1 : er m = 0
      · rw [if_pos h1] at e
        by_cases h2 : p.ce = 0
        · rw [if_pos h2] at e
          obtain rfl := Option.some.inj e
          exact absurd rfl he
        · rw [if_neg h2] at e
          obtain rfl := Option.some.inj e
          rfl
      · rw [if_neg h1] at e
        obtain rfl := Option.some.inj e
        rfl
    · rw [if_neg hk] at e
      obtain rfl := Option.some.inj e
      rfl
  · rw [if_neg hc] at e
    obtain rfl := Option.some.inj e
    rfl
theorem Form.list {m : M20} {bs : List Int} (h : Form m bs) : (m.2.2.2.2.2.2.2.2.2.2.2.2.2.2.2.2.2.1).length ≤ 256 := by
  cases h with
  | encs l h1 h2 => exact h1
  | fmt n d bg tr m1 m2 m3 s1 s2 s3 h => exact Nat.zero_le _
  | request f x y w h hx hy hw hh => exact Nat.zero_le _
  | key f n hn => exact Nat.zero_le _
  | pointer n x y hn hx hy => exact Nat.zero_le _
  | cut t h => exact Nat.zero_le _
theorem parse_len (s : ByteArray) (h : s.size ≤ 4611686018427387904) (x : P21) (e : clientmsg_Parse.f s = some x) : (x.2.2.2.2.2.2.2.2.2.2.2.2.2.2.2.2.2.1).length ≤ 256 := by
  by_cases he : xE x = 0
  · obtain ⟨m, bs, hf, rfl⟩ := parse_took s h x e he
    exact hf.list
  · rw [parse_zt s x e he]
    exact Nat.zero_le _
/-- Does a text begin with another one? -/
def hpre (a b : ByteArray) : Bool := if b.size ≤ a.size then (a.extract 0 b.size).toList == b.toList else false
theorem hpre_f (a b : ByteArray) : strings_HasPrefix.f a b = some (hpre a b) := by
  unfold strings_HasPrefix.f stringslite_HasPrefix.f hpre
  by_cases h : b.size ≤ a.size
  · rw [if_pos (show (a.size : Int) ≥ (b.size : Int) by omega), if_pos (show (0 : Int) ≤ (b.size : Int) by omega), if_pos (show (b.size : Int) ≤ (a.size : Int) by omega), if_pos h]
    rfl
  · rw [if_neg (show ¬ (a.size : Int) ≥ (b.size : Int) by omega), if_neg h]
    rfl
theorem extract_self (s : ByteArray) (n : Nat) (h : s.size ≤ n) : s.extract 0 n = s := ba_extract_all s n h
theorem greets_eq (s : ByteArray) : ∃ k g : Int, clientmsg_Greets.f s = some (k, g) ∧ miradorref22_Greets.f s = some (k, g) := by
  unfold clientmsg_Greets.f miradorref22_Greets.f
  obtain ⟨V, hV⟩ : ∃ V, (⟨#[82, 70, 66, 32, 48, 48, 51, 46, 48, 48, 56, 10]⟩ : ByteArray) = V := ⟨_, rfl⟩
  have hs : V.size = 12 := by rw [← hV]; rfl
  rw [hV, hpre_f, hpre_f]
  simp only [Option.bind_some]
  by_cases h : 12 ≤ s.size
  · have hm : mn (s.size : Int) 12 = 12 := by unfold mn; split <;> omega
    rw [hm, if_pos (show (0 : Int) ≤ 12 by omega), if_pos (show (12 : Int) ≤ (s.size : Int) by omega), if_pos (show (12 : Int) ≤ 12 by omega), if_neg (show ¬ (12 : Int) < 12 by omega)]
    have e1 : V.extract 0 (12 : Int).toNat = V := extract_self V _ (by rw [hs]; exact Nat.le_refl _)
    rw [e1]
    by_cases hp : (s.extract 0 12).toList = V.toList
    · refine ⟨12, 0, ?_, if_pos hp⟩
      rw [if_pos]
      unfold hpre
      rw [if_pos (by omega), hs]
      simpa using hp
    · refine ⟨0, 220, ?_, if_neg hp⟩
      rw [if_neg, if_neg]
      · intro h2
        unfold hpre at h2
        by_cases h3 : s.size ≤ V.size
        · rw [if_pos h3] at h2
          have h4 : s.size = 12 := by omega
          rw [extract_self V _ (by omega)] at h2
          rw [extract_self s 12 (by omega)] at hp
          exact hp (by simpa using (beq_iff_eq.1 h2).symm)
        · rw [if_neg h3] at h2; cases h2
      · intro h2
        unfold hpre at h2
        rw [if_pos (by omega), hs] at h2
        exact hp (by simpa using h2)
  · have hm : mn (s.size : Int) 12 = (s.size : Int) := by unfold mn; split <;> omega
    rw [hm, if_pos (show (0 : Int) ≤ (s.size : Int) by omega), if_pos (show (s.size : Int) ≤ (s.size : Int) by omega), if_pos (show (s.size : Int) ≤ 12 by omega), if_pos (show (s.size : Int) < 12 by omega), Int.toNat_natCast, extract_self s _ (Nat.le_refl _)]
    have h1 : hpre s V = false := by unfold hpre; rw [if_neg (by omega)]
    have h2 : hpre V s = ((V.extract 0 s.size).toList == s.toList) := by unfold hpre; rw [if_pos (by omega)]
    rw [h1, h2, if_neg (by decide)]
    by_cases hp : s.toList = (V.extract 0 s.size).toList
    · exact ⟨0, 2, if_pos (by simpa using hp.symm), if_pos hp⟩
    · exact ⟨0, 220, if_neg (fun h => hp (by simpa using (beq_iff_eq.1 h).symm)), if_neg hp⟩
section
attribute [local go_sem ↓] exec_store_msg exec_load_msg
attribute [local go_sem] store_msg load_msg
set_option maxHeartbeats 8000000 in
set_option maxRecDepth 100000 in
theorem parses_long (a0 : ByteArray) (W : World) (h : 5000 < a0.size) :
    Calls Try.prog 3 #[.string a0] W fun e W' => e = .returned (.bool true) ∧ Below W.heap.size W W' := by
  have c0 : decide ((a0.size : Int) > 5000) = true := decide_eq_true (by omega)
  have c1 : decide (5000 < a0.size) = true := decide_eq_true (by omega)
  have c2 : decide ((5000 : Int) < (a0.size : Int)) = true := decide_eq_true (by omega)
  clear h
  go_enter Try.func3, Try.ntmps3
  go_wp2_with fail
  refine (X.miradorlaw22_works.calls true W X.miradorlaw22_works.at0).mono ?_
  rintro e W1 ⟨rfl, hb⟩
  have HB1 := Lib.hid hb
  clear hb
  go_wp2_with fail
  go_ret
  exact ⟨rfl, HB1.out⟩
set_option maxHeartbeats 8000000 in
set_option maxRecDepth 100000 in
theorem parses_ok (a0 : ByteArray) (W : World) (h0 : a0.size ≤ 5000) (u0 : Int) (u1 : Bool) (u2 : Int) (u3 : Int) (u4 : Int) (u5 : Int) (u6 : Int) (u7 : Int) (u8 : Int) (u9 : Bool) (u10 : Bool) (u11 : Int) (u12 : Int) (u13 : Int) (u14 : Int) (u15 : Int) (u16 : Int) (u17 : List Int) (u18 : ByteArray) (n e k g : Int) (ep : clientmsg_Parse.f a0 = some (u0, u1, u2, u3, u4, u5, u6, u7, u8, u9, u10, u11, u12, u13, u14, u15, u16, u17, u18, n, e)) (hl : u17.length ≤ 1000000000000) (eg : clientmsg_Greets.f a0 = some (k, g)) (eh : miradorref22_Greets.f a0 = some (k, g)) :
    Calls Try.prog 3 #[.string a0] W fun e W' => e = .returned (.bool true) ∧ Below W.heap.size W W' := by
  have hsz := Lib.hid (show a0.size ≤ 4611686018427387904 by omega)
  have EP := Lib.hid ep
  have HL := Lib.hid hl
  have EG := Lib.hid eg
  have EH := Lib.hid eh
  clear ep hl eg eh
  have c0 : decide ((a0.size : Int) > 5000) = false := decide_eq_false (by omega)
  have c1 : decide (5000 < a0.size) = false := decide_eq_false (by omega)
  have c2 : decide ((5000 : Int) < (a0.size : Int)) = false := decide_eq_false (by omega)
  clear h0
  go_enter Try.func3, Try.ntmps3
  go_wp2_with fail
  refine (X.miradorlaw22_works.calls true W X.miradorlaw22_works.at0).mono ?_
  rintro e W1 ⟨rfl, hb⟩
  have HB1 := Lib.hid hb
  clear hb
  go_wp2_with fail
  refine (X.clientmsg_Parse.calls a0 u0 u1 u2 u3 u4 u5 u6 u7 u8 u9 u10 u11 u12 u13 u14 u15 u16 u17 u18 n e W1 EP.out).mono ?_
  rintro en W3 ⟨v3, rfl, hR, hb⟩
  obtain ⟨A3, g3, rfl, hc, hC⟩ := Kd.R_reads hR
  have hbz := below_alloc (Below.refl W3.heap.size W3) (.cells #[.int .i64 0, .bool false, .int .i64 0, .int .i64 0, .int .i64 0, .int .i64 0, .int .i64 0, .int .i64 0, .int .i64 0, .bool false, .bool false, .int .i64 0, .int .i64 0, .int .i64 0, .int .i64 0, .int .i64 0, .int .i64 0, .slice none 0 0, .string ⟨#[]⟩] 30)
  have hrow : X.rowAt (W3.alloc (.cells #[.int .i64 0, .bool false, .int .i64 0, .int .i64 0, .int .i64 0, .int .i64 0, .int .i64 0, .int .i64 0, .int .i64 0, .bool false, .bool false, .int .i64 0, .int .i64 0, .int .i64 0, .int .i64 0, .int .i64 0, .int .i64 0, .slice none 0 0, .string ⟨#[]⟩] 30)) W3.heap.size 30 19 = true := X.rowAt_of (heap_alloc_new W3 _) rfl
  obtain ⟨V3, hV⟩ : ∃ X, (W3.alloc (.cells #[.int .i64 0, .bool false, .int .i64 0, .int .i64 0, .int .i64 0, .int .i64 0, .int .i64 0, .int .i64 0, .int .i64 0, .bool false, .bool false, .int .i64 0, .int .i64 0, .int .i64 0, .int .i64 0, .int .i64 0, .int .i64 0, .slice none 0 0, .string ⟨#[]⟩] 30)).setRow W3.heap.size #[.int .i64 u0, .bool u1, .int .i64 u2, .int .i64 u3, .int .i64 u4, .int .i64 u5, .int .i64 u6, .int .i64 u7, .int .i64 u8, .bool u9, .bool u10, .int .i64 u11, .int .i64 u12, .int .i64 u13, .int .i64 u14, .int .i64 u15, .int .i64 u16, .slice A3 u17.length g3, .string u18] = X := ⟨_, rfl⟩
  have hbn := X.below_row (g := W3.heap.size) hbz (Nat.le_refl _) #[.int .i64 u0, .bool u1, .int .i64 u2, .int .i64 u3, .int .i64 u4, .int .i64 u5, .int .i64 u6, .int .i64 u7, .int .i64 u8, .bool u9, .bool u10, .int .i64 u11, .int .i64 u12, .int .i64 u13, .int .i64 u14, .int .i64 u15, .int .i64 u16, .slice A3 u17.length g3, .string u18]
  rw [hV] at hbn
  have HB3 := Lib.hid ((HB1.out.trans (Below.mono hb HB1.out.size)).trans (Below.mono hbn (HB1.out.trans (Below.mono hb HB1.out.size)).size))
  have HY3 := Lib.hid (show V3.heap[W3.heap.size]? = some (.cells #[.int .i64 u0, .bool u1, .int .i64 u2, .int .i64 u3, .int .i64 u4, .int .i64 u5, .int .i64 u6, .int .i64 u7, .int .i64 u8, .bool u9, .bool u10, .int .i64 u11, .int .i64 u12, .int .i64 u13, .int .i64 u14, .int .i64 u15, .int .i64 u16, .slice A3 u17.length g3, .string u18] 30 (0, 0)) from by rw [← hV]; exact setRow_heap _ _ _ _ _ _ (heap_alloc_new W3 _))
  have HK3 := Lib.hid (Kd.C_below hC hbn)
  have HG3 := Lib.hid hc
  go_upto_region 7 with (fail)
  try rw [hV]
  clear hV hrow hR hb hbz hbn hC hc
  go_wp2_with fail
  refine (dparse_c a0 V3 hsz.out u0 u1 u2 u3 u4 u5 u6 u7 u8 u9 u10 u11 u12 u13 u14 u15 u16 u17 u18 n e EP.out).mono ?_
  rintro en W4 ⟨v4, rfl, hR, hb⟩
  obtain ⟨A4, g4, rfl, hc, hC⟩ := Kd.R_reads hR
  have hbz := below_alloc (Below.refl W4.heap.size W4) (.cells #[.int .i64 0, .bool false, .int .i64 0, .int .i64 0, .int .i64 0, .int .i64 0, .int .i64 0, .int .i64 0, .int .i64 0, .bool false, .bool false, .int .i64 0, .int .i64 0, .int .i64 0, .int .i64 0, .int .i64 0, .int .i64 0, .slice none 0 0, .string ⟨#[]⟩] 30)
  have hrow : X.rowAt (W4.alloc (.cells #[.int .i64 0, .bool false, .int .i64 0, .int .i64 0, .int .i64 0, .int .i64 0, .int .i64 0, .int .i64 0, .int .i64 0, .bool false, .bool false, .int .i64 0, .int .i64 0, .int .i64 0, .int .i64 0, .int .i64 0, .int .i64 0, .slice none 0 0, .string ⟨#[]⟩] 30)) W4.heap.size 30 19 = true := X.rowAt_of (heap_alloc_new W4 _) rfl
  obtain ⟨V4, hV⟩ : ∃ X, (W4.alloc (.cells #[.int .i64 0, .bool false, .int .i64 0, .int .i64 0, .int .i64 0, .int .i64 0, .int .i64 0, .int .i64 0, .int .i64 0, .bool false, .bool false, .int .i64 0, .int .i64 0, .int .i64 0, .int .i64 0, .int .i64 0, .int .i64 0, .slice none 0 0, .string ⟨#[]⟩] 30)).setRow W4.heap.size #[.int .i64 u0, .bool u1, .int .i64 u2, .int .i64 u3, .int .i64 u4, .int .i64 u5, .int .i64 u6, .int .i64 u7, .int .i64 u8, .bool u9, .bool u10, .int .i64 u11, .int .i64 u12, .int .i64 u13, .int .i64 u14, .int .i64 u15, .int .i64 u16, .slice A4 u17.length g4, .string u18] = X := ⟨_, rfl⟩
  have hbn := X.below_row (g := W4.heap.size) hbz (Nat.le_refl _) #[.int .i64 u0, .bool u1, .int .i64 u2, .int .i64 u3, .int .i64 u4, .int .i64 u5, .int .i64 u6, .int .i64 u7, .int .i64 u8, .bool u9, .bool u10, .int .i64 u11, .int .i64 u12, .int .i64 u13, .int .i64 u14, .int .i64 u15, .int .i64 u16, .slice A4 u17.length g4, .string u18]
  rw [hV] at hbn
  have HB4 := Lib.hid ((HB3.out.trans (Below.mono hb HB3.out.size)).trans (Below.mono hbn (HB3.out.trans (Below.mono hb HB3.out.size)).size))
  have HY4 := Lib.hid (show V4.heap[W4.heap.size]? = some (.cells #[.int .i64 u0, .bool u1, .int .i64 u2, .int .i64 u3, .int .i64 u4, .int .i64 u5, .int .i64 u6, .int .i64 u7, .int .i64 u8, .bool u9, .bool u10, .int .i64 u11, .int .i64 u12, .int .i64 u13, .int .i64 u14, .int .i64 u15, .int .i64 u16, .slice A4 u17.length g4, .string u18] 30 (0, 0)) from by rw [← hV]; exact setRow_heap _ _ _ _ _ _ (heap_alloc_new W4 _))
  have HK4 := Lib.hid (Kd.C_below hC hbn)
  have HG4 := Lib.hid hc
  have HY3b := Lib.hid (blk_below (blk_below HY3.out hb) hbn)
  have HK3b := Lib.hid (Kd.C_below (Kd.C_below HK3.out hb) hbn)
  clear HY3 HK3
  go_upto_region 8 with (fail)
  try rw [hV]
  clear hV hrow hR hb hbz hbn hC hc
  go_wp2_with fail
  refine (X.clientmsg_Greets.calls a0 k g V4 EG.out).mono ?_
  rintro en V5 ⟨rfl, nd, rfl⟩
  have HY5 := Lib.hid (blk_drewN HY3b.out nd)
  have HZ5 := Lib.hid (blk_drewN HY4.out nd)
  have HB5 := Lib.hid (pw_below_drewN HB4.out nd)
  have HK5 := Lib.hid (show Kd.C (Kd.int .i64) (V4.drewN nd) A3 u17.length u17 from HK3b.out)
  have HL5 := Lib.hid (show Kd.C (Kd.int .i64) (V4.drewN nd) A4 u17.length u17 from HK4.out)
  obtain ⟨V6, hV6⟩ : ∃ X, V4.drewN nd = X := ⟨_, rfl⟩
  rw [hV6] at HY5 HZ5 HB5 HK5 HL5 ⊢
  clear hV6 HY3b HY4 HB4 HK3b HK4
  go_wp2_with fail
  refine (X.miradorref22_Greets.calls a0 k g V6 EH.out).mono ?_
  rintro en W7 ⟨rfl, hb⟩
  have HY7 := Lib.hid (blk_below HY5.out hb)
  have HZ7 := Lib.hid (blk_below HZ5.out hb)
  have HB7 := Lib.hid (HB5.out.trans (Below.mono hb HB5.out.size))
  have HK7 := Lib.hid (Kd.C_below HK5.out hb)
  have HL7 := Lib.hid (Kd.C_below HL5.out hb)
  clear hb HY5 HZ5 HB5 HK5 HL5
  have q31 : X.rowAt W7 W3.heap.size 30 19 = true := X.rowAt_of HY7.out rfl
  have q32 : X.cellsAt W7 W3.heap.size = #[.int .i64 u0, .bool u1, .int .i64 u2, .int .i64 u3, .int .i64 u4, .int .i64 u5, .int .i64 u6, .int .i64 u7, .int .i64 u8, .bool u9, .bool u10, .int .i64 u11, .int .i64 u12, .int .i64 u13, .int .i64 u14, .int .i64 u15, .int .i64 u16, .slice A3 u17.length g3, .string u18] := X.cellsAt_of HY7.out
  have q41 : X.rowAt W7 W4.heap.size 30 19 = true := X.rowAt_of HZ7.out rfl
  have q42 : X.cellsAt W7 W4.heap.size = #[.int .i64 u0, .bool u1, .int .i64 u2, .int .i64 u3, .int .i64 u4, .int .i64 u5, .int .i64 u6, .int .i64 u7, .int .i64 u8, .bool u9, .bool u10, .int .i64 u11, .int .i64 u12, .int .i64 u13, .int .i64 u14, .int .i64 u15, .int .i64 u16, .slice A4 u17.length g4, .string u18] := X.cellsAt_of HZ7.out
  go_wp2_with fail
  refine (same_c u0 u1 u2 u3 u4 u5 u6 u7 u8 u9 u10 u11 u12 u13 u14 u15 u16 u17 u18 A3 g3 A4 g4 W7 HK7.out HL7.out HL.out).mono ?_
  rintro en W8 ⟨rfl, hb⟩
  have HB8 := Lib.hid (HB7.out.trans (Below.mono hb HB7.out.size))
  clear hb q31 q32 q41 q42
  go_wp2_with fail
  go_ret
  exact ⟨by simp, HB8.out⟩
end
theorem ClientmsgParses_walk (a0 : ByteArray) (W : World) (w0 : a0.size ≤ 140737488351232) :
    Calls Try.prog 3 #[.string a0] W fun e W' => e = .returned (.bool true) ∧ Below W.heap.size W W' := by
  by_cases h0 : 5000 < a0.size
  · exact parses_long a0 W h0
  obtain ⟨k, g, eg, eh⟩ := greets_eq a0
  obtain ⟨⟨u0, u1, u2, u3, u4, u5, u6, u7, u8, u9, u10, u11, u12, u13, u14, u15, u16, u17, u18, n, e⟩, y, ep, _, _⟩ := parse_pair a0 ⟨#[]⟩ (by omega) (by rw [ba_append_nil]; omega)
  have hl := parse_len a0 (by omega) _ ep
  have hl : u17.length ≤ 256 := hl
  exact parses_ok a0 W (by omega) u0 u1 u2 u3 u4 u5 u6 u7 u8 u9 u10 u11 u12 u13 u14 u15 u16 u17 u18 n e k g ep (by omega) eg eh
end Go.Proofs.Ytclikkhkhoicfaa.H
