/- What each Go function that these laws use answers: as a Lean function, with the proof that the machine's call comes to it. Written by a program of this session (xprint.py). -/
import Derived.Test.YtloigmonfbfieaaXx0
import Derived.Test.YtloigmonfbfieaaXx3
import Derived.Test.YtloigmonfbfieaaXx4
import Derived.Test.YtloigmonfbfieaaXx5
import Derived.Test.YtloigmonfbfieaaXx9
import Derived.Test.YtloigmonfbfieaaXx15
namespace Go.Proofs.Ytloigmonfbfieaa.X
open Go.RowKit Go.Proofs.YtloigmonfbfieaaW.PrintWords Go.Proofs.YtloigmonfbfieaaW.PrintLast Go.Proofs.YtloigmonfbfieaaW.PrintMore
attribute [local go_sem] max2_int min2_int max_two min_two max_three min_three max_four min_four   -- for this text's walks alone
set_option linter.unusedVariables false
set_option linter.unusedSimpArgs false

/-! ### octets_Cursor_Int: function 49 -/
def octets_leK (l : List Int) : Nat → Int
  | 0 => 0
  | k + 1 => Go.bits .or .i64 (octets_leK l k) (wrap64 (l.getD k 0 * 2 ^ (8 * k)))
def octets_turnT (s : ByteArray) : ByteArray := strOfNums (bytesOf s).reverse
theorem octets_turnT_ok (s : ByteArray) (w : World) (hs : s.size ≤ 4) : Hid ((octets_turnT s).size ≤ 4 ∧ Calls Try.prog 65 #[.string s] w fun e w' => e = .returned (.string (octets_turnT s)) ∧ Below w.heap.size w w') :=
  Lib.hid ⟨by unfold octets_turnT; rw [strOfNums_size, List.length_reverse, bytesOf_length]; exact hs, octets_turned.calls s _ w (by unfold octets_turned.f; rw [if_pos (by omega)]; rfl)⟩
/-- What a number of bytes is, the least byte first, as the loop reckons it. -/
def octets_numberT.f (s0_0 : ByteArray) (s0_1 s0_2 : Int) (a1 : Int) : Option (Int × ByteArray × Int × Int) :=
  (octets_wide.f a1).bind fun wd => (if wd = true then some (s0_0, s0_1, s0_2) else octets_Cursor_fail.f s0_0 s0_1 s0_2 1).bind fun st =>
  (octets_Cursor_Bytes.f st.1 st.2.1 st.2.2 a1).bind fun r => if r.1.size ≤ 4 then some (octets_leK (bytesOf (octets_turnT r.1)) (octets_turnT r.1).size, r.2.1, r.2.2.1, r.2.2.2) else none
section
open Go.Sort Go.Lib
set_option maxHeartbeats 1600000 in
set_option maxRecDepth 100000 in
theorem octets_numberT.calls (hT : ∀ (s : ByteArray) (w : World), s.size ≤ 4 → Hid ((octets_turnT s).size ≤ 4 ∧ Calls Try.prog 65 #[.string s] w fun e w' => e = .returned (.string (octets_turnT s)) ∧ Below w.heap.size w w'))
    (g : Nat) (s0_0 : ByteArray) (s0_1 s0_2 a1 : Int) (r1 : Int) (r2 : ByteArray) (r3 r4 : Int) (w0 w : World) (hI : IsS74 w0 w g s0_0 s0_1 s0_2) (hB : Below w0.heap.size w0 w)
    (h : octets_numberT.f s0_0 s0_1 s0_2 a1 = some (r1, r2, r3, r4)) :
    Calls Try.prog 68 #[.pointer (some ⟨g, 0, none⟩), .int .i64 a1, .func (.func 65) #[] #[]] w fun e w' => e = .returned (.int .i64 r1) ∧ IsS74 w0 w' g r2 r3 r4 ∧ Below w0.heap.size w0 w' ∧ KeepBut w w' g none := by
  have HI := Lib.hid hI
  have HB := Lib.hid hB
  clear hI hB
  unfold octets_numberT.f at h
  obtain ⟨wd, hw, h⟩ := Option.bind_eq_some_iff.mp h
  obtain ⟨⟨p0, p1, p2⟩, hf, h⟩ := Option.bind_eq_some_iff.mp h
  obtain ⟨⟨b1, b2, b3, b4⟩, hb, h⟩ := Option.bind_eq_some_iff.mp h
  dsimp only at hb h
  split at h
  case isFalse => exact absurd h (by simp)
  case isTrue hr =>
  simp only [Option.some.injEq, Prod.mk.injEq] at h
  obtain ⟨h1, rfl, rfl, rfl⟩ := h
  have HW := Lib.hid hw
  have HH := Lib.hid hb
  have H1 := Lib.hid h1
  clear hw hb h1
  have HT := hT b1
  clear hT
  cases wd with
  | true =>
    rw [if_pos rfl] at hf
    simp only [Option.some.injEq, Prod.mk.injEq] at hf
    obtain ⟨rfl, rfl, rfl⟩ := hf
    go_enter Try.func68, Try.ntmps68
    go_wp2_with (first | (go_at_call 75; refine (octets_wide.calls a1 true _ HW.out).mono ?_; rintro e w' ⟨rfl, ⟨nd, rfl⟩⟩) | (go_at_call 32; refine (octets_Cursor_Bytes.calls g s0_0 s0_1 s0_2 a1 b1 b2 b3 b4 w0 _ (IsS74.drewN HI.out nd) (pw_below_drewN HB.out nd) HH.out).mono ?_; rintro e w1 ⟨rfl, hi, hb, hk⟩; have HI1 := Lib.hid hi; have HB1 := Lib.hid hb; have HK1 := Lib.hid (KeepBut.trans (keep_drewN (KeepBut.refl w g none) nd) hk (.inl rfl)); clear hi hb hk) | (go_at_call 65; obtain ⟨ht1, ht2⟩ := (HT w1 hr).out; clear HT; refine ht2.mono ?_; clear ht2; rintro e w2 ⟨rfl, hb⟩; have HB2 := Lib.hid hb; clear hb; have hcv := fun wx => Go.Lib.run_convert_string_bytes (P := Try.prog) wx 9 47 5 (octets_turnT b1) Try.underlying9 Try.underlying47 Try.underlying5))
    have hl : (bytesOf (octets_turnT b1)).length = (octets_turnT b1).size := bytesOf_length _
    have HL := Lib.hid hl
    have HC : ∀ k, k < (octets_turnT b1).size → Hid ((Lib.bytesWorld w2 5 (octets_turnT b1)).cell? ⟨w2.heap.size, k, none⟩ = some (.int .u8 ((bytesOf (octets_turnT b1)).getD k 0)) ∧ 0 ≤ (bytesOf (octets_turnT b1)).getD k 0 ∧ (bytesOf (octets_turnT b1)).getD k 0 ≤ 255) := by
      intro k hk
      refine Lib.hid ⟨?_, ?_, ?_⟩
      · rw [Lib.bytesWorld_cell w2 5 (octets_turnT b1) k hk]
        simp [bytesOf, List.getD, List.getElem?_eq_getElem, hk]
      · simp [bytesOf, List.getD, List.getElem?_eq_getElem, hk]
      · have : ((octets_turnT b1).data.toList.getD k 0).toNat < 256 := UInt8.toNat_lt _
        simp [bytesOf, List.getD, List.getElem?_eq_getElem, hk] at this ⊢
        omega
    clear hl hcv
    generalize octets_turnT b1 = V at *
    go_loop [7, 22] (fun n i => ∃ k : Nat, k ≤ V.size ∧ i = .int .i64 k ∧ n = .int .i64 (octets_leK (bytesOf V) k)) (fun _ i => V.size - (RowKit.intOf i).toNat)
    case atStart => exact ⟨0, Nat.zero_le _, rfl, rfl⟩
    case round =>
      obtain ⟨k, hk, rfl, rfl⟩ := hrel
      by_cases hlt : k < V.size
      · obtain ⟨hc, hb0, hb1⟩ := (HC k hlt).out
        clear HC
        have h4 : k ≤ 3 := by omega
        have hn : octets_leK (bytesOf V) (k + 1) = Go.bits .or .i64 (octets_leK (bytesOf V) k) (wrap64 ((bytesOf V).getD k 0 * 2 ^ (8 * k))) := rfl
        generalize (bytesOf V).getD k 0 = b at *
        have HN := Lib.hid hn
        clear hn
        go_wp2
        go_round
        case rel => exact ⟨k + 1, by omega, by go_num, by rw [HN.out]⟩
        case measure => simp [RowKit.intOf]; omega
      · obtain rfl : k = V.size := by omega
        clear HC
        go_wp2
        go_ret
        have hB2 : Below w1.heap.size w1 (Lib.bytesWorld w2 5 V) := HB2.out.trans ((bytesWorld_below w2 5 V).mono HB2.out.size)
        exact ⟨by rw [← H1.out]; rfl, IsS74.below HI1.out hB2, HB1.out.trans (hB2.mono HB1.out.size), HK1.out.trans (KeepBut.of_below hB2 g none) (.inl rfl)⟩
  | false =>
    rw [if_neg (by decide)] at hf
    have HF := Lib.hid hf
    clear hf
    go_enter Try.func68, Try.ntmps68
    go_wp2_with (first | (go_at_call 75; refine (octets_wide.calls a1 false _ HW.out).mono ?_; rintro e w' ⟨rfl, ⟨nd, rfl⟩⟩) | (go_at_call 54; refine (octets_Cursor_fail.calls g s0_0 s0_1 s0_2 1 p0 p1 p2 w0 _ (IsS74.drewN HI.out nd) (pw_below_drewN HB.out nd) HF.out).mono ?_; rintro e wf ⟨rfl, hi, hb, hk⟩; have HIf := Lib.hid hi; have HBf := Lib.hid hb; have HKf := Lib.hid (KeepBut.trans (keep_drewN (KeepBut.refl w g none) nd) hk (.inl rfl)); clear hi hb hk) | (go_at_call 32; refine (octets_Cursor_Bytes.calls g p0 p1 p2 a1 b1 b2 b3 b4 w0 _ HIf.out HBf.out HH.out).mono ?_; rintro e w1 ⟨rfl, hi, hb, hk⟩; have HI1 := Lib.hid hi; have HB1 := Lib.hid hb; have HK1 := Lib.hid (HKf.out.trans hk (.inl rfl)); clear hi hb hk) | (go_at_call 65; obtain ⟨ht1, ht2⟩ := (HT w1 hr).out; clear HT; refine ht2.mono ?_; clear ht2; rintro e w2 ⟨rfl, hb⟩; have HB2 := Lib.hid hb; clear hb; have hcv := fun wx => Go.Lib.run_convert_string_bytes (P := Try.prog) wx 9 47 5 (octets_turnT b1) Try.underlying9 Try.underlying47 Try.underlying5))
    have hl : (bytesOf (octets_turnT b1)).length = (octets_turnT b1).size := bytesOf_length _
    have HL := Lib.hid hl
    have HC : ∀ k, k < (octets_turnT b1).size → Hid ((Lib.bytesWorld w2 5 (octets_turnT b1)).cell? ⟨w2.heap.size, k, none⟩ = some (.int .u8 ((bytesOf (octets_turnT b1)).getD k 0)) ∧ 0 ≤ (bytesOf (octets_turnT b1)).getD k 0 ∧ (bytesOf (octets_turnT b1)).getD k 0 ≤ 255) := by
      intro k hk
      refine Lib.hid ⟨?_, ?_, ?_⟩
      · rw [Lib.bytesWorld_cell w2 5 (octets_turnT b1) k hk]
        simp [bytesOf, List.getD, List.getElem?_eq_getElem, hk]
      · simp [bytesOf, List.getD, List.getElem?_eq_getElem, hk]
      · have : ((octets_turnT b1).data.toList.getD k 0).toNat < 256 := UInt8.toNat_lt _
        simp [bytesOf, List.getD, List.getElem?_eq_getElem, hk] at this ⊢
        omega
    clear hl hcv
    generalize octets_turnT b1 = V at *
    go_loop [7, 22] (fun n i => ∃ k : Nat, k ≤ V.size ∧ i = .int .i64 k ∧ n = .int .i64 (octets_leK (bytesOf V) k)) (fun _ i => V.size - (RowKit.intOf i).toNat)
    case atStart => exact ⟨0, Nat.zero_le _, rfl, rfl⟩
    case round =>
      obtain ⟨k, hk, rfl, rfl⟩ := hrel
      by_cases hlt : k < V.size
      · obtain ⟨hc, hb0, hb1⟩ := (HC k hlt).out
        clear HC
        have h4 : k ≤ 3 := by omega
        have hn : octets_leK (bytesOf V) (k + 1) = Go.bits .or .i64 (octets_leK (bytesOf V) k) (wrap64 ((bytesOf V).getD k 0 * 2 ^ (8 * k))) := rfl
        generalize (bytesOf V).getD k 0 = b at *
        have HN := Lib.hid hn
        clear hn
        go_wp2
        go_round
        case rel => exact ⟨k + 1, by omega, by go_num, by rw [HN.out]⟩
        case measure => simp [RowKit.intOf]; omega
      · obtain rfl : k = V.size := by omega
        clear HC
        go_wp2
        go_ret
        have hB2 : Below w1.heap.size w1 (Lib.bytesWorld w2 5 V) := HB2.out.trans ((bytesWorld_below w2 5 V).mono HB2.out.size)
        exact ⟨by rw [← H1.out]; rfl, IsS74.below HI1.out hB2, HB1.out.trans (hB2.mono HB1.out.size), HK1.out.trans (KeepBut.of_below hB2 g none) (.inl rfl)⟩
end

def octets_Cursor_Int.f (s0_0 : ByteArray) (s0_1 : Int) (s0_2 : Int) (a1 : Int) : Option (Int × ByteArray × Int × Int) := octets_numberT.f s0_0 s0_1 s0_2 a1
theorem octets_Cursor_Int.calls (g : Nat) (s0_0 : ByteArray) (s0_1 : Int) (s0_2 : Int) (a1 : Int) (r1 : Int) (r2 : ByteArray) (r3 : Int) (r4 : Int) (w0 w : World) (hI : IsS74 w0 w g s0_0 s0_1 s0_2) (hB : Below w0.heap.size w0 w) (h : octets_Cursor_Int.f s0_0 s0_1 s0_2 a1 = some (r1, r2, r3, r4)) :
    Calls Try.prog 49 #[.pointer (some ⟨g, 0, none⟩), .int .i64 a1] w fun e w' => e = .returned (.int .i64 r1) ∧ IsS74 w0 w' g r2 r3 r4 ∧ Below w0.heap.size w0 w' ∧ KeepBut w w' g none := by
  have HX := Lib.hid (octets_numberT.calls octets_turnT_ok g s0_0 s0_1 s0_2 a1 r1 r2 r3 r4 w0 w hI hB h)
  clear hI hB h
  go_enter Try.func49, Try.ntmps49
  go_wp2_with (go_at_call 68; refine HX.out.mono ?_; rintro e w' ⟨rfl, hi, hb, hk⟩; have HP := Lib.hid (And.intro hi (And.intro hb hk)); clear hi hb hk)
  go_ret
  exact ⟨rfl, HP.out⟩

/-! ### plain_CopyOf: function 23 -/
def plain_CopyOf.f (a0 : ByteArray) : Option (Int × Int × Int × Int) := (octets_New.f a0).bind fun bt343 => ((octets_Cursor_Int.f bt343.1 bt343.2.1 bt343.2.2 2).bind fun bt347 => ((octets_Cursor_Int.f bt347.2.1 bt347.2.2.1 bt347.2.2.2 2).bind fun bt351 => ((octets_Cursor_Err.f bt351.2.1 bt351.2.2.1 bt351.2.2.2).bind fun bt355 => (if bt355.1 = 0 then ((octets_Cursor_At.f bt355.2.1 bt355.2.2.1 bt355.2.2.2).bind fun bt359 => (some (bt347.1, bt351.1, bt359.1, 0))) else (some (0, 0, 0, bt355.1))))))
set_option maxHeartbeats 8000000 in
set_option maxRecDepth 100000 in
theorem plain_CopyOf.calls (a0 : ByteArray) (r1 : Int) (r2 : Int) (r3 : Int) (r4 : Int) (w : World) (h : plain_CopyOf.f a0 = some (r1, r2, r3, r4)) :
    Calls Try.prog 23 #[.string a0] w fun e w' => e = .returned (.tuple #[.int .i64 r1, .int .i64 r2, .int .i64 r3, .int .i64 r4]) ∧ Below w.heap.size w w' := by
  have HB := Aside0.mk (Below.refl w.heap.size w)
  have H : ((octets_New.f a0).bind fun bt343 => ((octets_Cursor_Int.f bt343.1 bt343.2.1 bt343.2.2 2).bind fun bt347 => ((octets_Cursor_Int.f bt347.2.1 bt347.2.2.1 bt347.2.2.2 2).bind fun bt351 => ((octets_Cursor_Err.f bt351.2.1 bt351.2.2.1 bt351.2.2.2).bind fun bt355 => (if bt355.1 = 0 then ((octets_Cursor_At.f bt355.2.1 bt355.2.2.1 bt355.2.2.2).bind fun bt359 => (some (bt347.1, bt351.1, bt359.1, 0))) else (some (0, 0, 0, bt355.1))))))) = some (r1, r2, r3, r4) := h
  clear h
  replace H := Option.bind_eq_some_iff.mp H
  obtain ⟨⟨t343, t344, t345⟩, A20, H⟩ := H
  replace H : ((octets_Cursor_Int.f t343 t344 t345 2).bind fun bt347 => ((octets_Cursor_Int.f bt347.2.1 bt347.2.2.1 bt347.2.2.2 2).bind fun bt351 => ((octets_Cursor_Err.f bt351.2.1 bt351.2.2.1 bt351.2.2.2).bind fun bt355 => (if bt355.1 = 0 then ((octets_Cursor_At.f bt355.2.1 bt355.2.2.1 bt355.2.2.2).bind fun bt359 => (some (bt347.1, bt351.1, bt359.1, 0))) else (some (0, 0, 0, bt355.1)))))) = some (r1, r2, r3, r4) := H
  have A2 := Aside0.mk A20
  clear A20
  replace H := Option.bind_eq_some_iff.mp H
  obtain ⟨⟨t347, t348, t349, t350⟩, A30, H⟩ := H
  replace H : ((octets_Cursor_Int.f t348 t349 t350 2).bind fun bt351 => ((octets_Cursor_Err.f bt351.2.1 bt351.2.2.1 bt351.2.2.2).bind fun bt355 => (if bt355.1 = 0 then ((octets_Cursor_At.f bt355.2.1 bt355.2.2.1 bt355.2.2.2).bind fun bt359 => (some (t347, bt351.1, bt359.1, 0))) else (some (0, 0, 0, bt355.1))))) = some (r1, r2, r3, r4) := H
  have A3 := Aside0.mk A30
  clear A30
  replace H := Option.bind_eq_some_iff.mp H
  obtain ⟨⟨t351, t352, t353, t354⟩, A40, H⟩ := H
  replace H : ((octets_Cursor_Err.f t352 t353 t354).bind fun bt355 => (if bt355.1 = 0 then ((octets_Cursor_At.f bt355.2.1 bt355.2.2.1 bt355.2.2.2).bind fun bt359 => (some (t347, t351, bt359.1, 0))) else (some (0, 0, 0, bt355.1)))) = some (r1, r2, r3, r4) := H
  have A4 := Aside0.mk A40
  clear A40
  replace H := Option.bind_eq_some_iff.mp H
  obtain ⟨⟨t355, t356, t357, t358⟩, A50, H⟩ := H
  replace H : (if t355 = 0 then ((octets_Cursor_At.f t356 t357 t358).bind fun bt359 => (some (t347, t351, bt359.1, 0))) else (some (0, 0, 0, t355))) = some (r1, r2, r3, r4) := H
  have A5 := Aside0.mk A50
  clear A50
  by_cases c6 : t355 = 0
  · rw [if_pos c6] at H
    have c6b0 : (t355 == 0) = true := beq_iff_eq.mpr c6
    have c6b1 : (t355 != 0) = false := bne_eq_false_iff_eq.mpr c6
    clear c6
    replace H := Option.bind_eq_some_iff.mp H
    obtain ⟨⟨t359, t360, t361, t362⟩, A70, H⟩ := H
    replace H : (some (t347, t351, t359, 0)) = some (r1, r2, r3, r4) := H
    have A7 := Aside0.mk A70
    clear A70
    simp only [Option.some.injEq, Prod.mk.injEq] at H
    obtain ⟨rfl, rfl, rfl, rfl⟩ := H
    go_enter Try.func23, Try.ntmps23
    go_wp2_with (first | ((with_reducible refine gate_callee (f := 31) rfl ?_); refine goesL_ (some 9) rfl rfl Try.func31 (by kernel_rfl) rfl #[.string a0] rfl (by (try simp only [List.map_toArray, List.map_cons, List.map_nil]); first | done | rfl | (simp only [List.length_drop, List.length_take]; rfl)) ?_; (with_reducible refine (octets_New.calls a0 t343 t344 t345 w _ ?side1 A2.out).mono ?_); (case side1 => repeat (first | (with_reducible first | exact HB.out | apply below_alloc | apply pw_below_drewN | apply below_drew1) | exact HB.out)); rintro e w8 ⟨g346, rfl, hi, hb, hb2⟩; refine ⟨_, rfl, ?_⟩; have n0_ := Aside0.mk (hb); have n1_ := Aside0.mk (hi); clear HB; have HB := n0_; have HI346 := n1_; clear n0_ n1_; (try clear hb); (try clear hb2); (try clear hk); (try clear hi)) | ((with_reducible refine gate_callee (f := 49) rfl ?_); refine goesL_ (some 11) rfl rfl Try.func49 (by kernel_rfl) rfl #[.pointer (some ⟨g346, 0, none⟩), .int .i64 2] rfl (by (try simp only [List.map_toArray, List.map_cons, List.map_nil]); first | done | rfl | (simp only [List.length_drop, List.length_take]; rfl)) ?_; (with_reducible refine (octets_Cursor_Int.calls g346 t343 t344 t345 2 t347 t348 t349 t350 w _ ?side1 ?side2 A3.out).mono ?_); (case side1 => repeat (first | (with_reducible first | exact HI346.out | apply IsS74.alloc | apply IsS74.drewN | apply IsS74.drew | apply IsS74.set_0 | apply IsS74.set_1 | apply IsS74.set_2) | exact HI346.out)); (case side2 => repeat (first | (with_reducible first | exact HB.out | apply below_alloc | apply pw_below_drewN | apply below_drew1 | refine below_set ?_ (IsS74.ge HI346.out)) | exact HB.out)); rintro e w9 ⟨rfl, hi, hb, hk⟩; refine ⟨_, rfl, ?_⟩; have n0_ := Aside0.mk (hb); have n1_ := Aside0.mk (hi); clear HB; clear HI346; have HB := n0_; have HI346 := n1_; clear n0_ n1_; (try clear hb); (try clear hb2); (try clear hk); (try clear hi)) | ((with_reducible refine gate_callee (f := 49) rfl ?_); refine goesL_ (some 13) rfl rfl Try.func49 (by kernel_rfl) rfl #[.pointer (some ⟨g346, 0, none⟩), .int .i64 2] rfl (by (try simp only [List.map_toArray, List.map_cons, List.map_nil]); first | done | rfl | (simp only [List.length_drop, List.length_take]; rfl)) ?_; (with_reducible refine (octets_Cursor_Int.calls g346 t348 t349 t350 2 t351 t352 t353 t354 w _ ?side1 ?side2 A4.out).mono ?_); (case side1 => repeat (first | (with_reducible first | exact HI346.out | apply IsS74.alloc | apply IsS74.drewN | apply IsS74.drew | apply IsS74.set_0 | apply IsS74.set_1 | apply IsS74.set_2) | exact HI346.out)); (case side2 => repeat (first | (with_reducible first | exact HB.out | apply below_alloc | apply pw_below_drewN | apply below_drew1 | refine below_set ?_ (IsS74.ge HI346.out)) | exact HB.out)); rintro e w10 ⟨rfl, hi, hb, hk⟩; refine ⟨_, rfl, ?_⟩; have n0_ := Aside0.mk (hb); have n1_ := Aside0.mk (hi); clear HB; clear HI346; have HB := n0_; have HI346 := n1_; clear n0_ n1_; (try clear hb); (try clear hb2); (try clear hk); (try clear hi)) | ((with_reducible refine gate_callee (f := 33) rfl ?_); refine goesL_ (some 15) rfl rfl Try.func33 (by kernel_rfl) rfl #[.pointer (some ⟨g346, 0, none⟩)] rfl (by (try simp only [List.map_toArray, List.map_cons, List.map_nil]); first | done | rfl | (simp only [List.length_drop, List.length_take]; rfl)) ?_; (with_reducible refine (octets_Cursor_Err.calls g346 t352 t353 t354 t355 t356 t357 t358 w _ ?side1 ?side2 A5.out).mono ?_); (case side1 => repeat (first | (with_reducible first | exact HI346.out | apply IsS74.alloc | apply IsS74.drewN | apply IsS74.drew | apply IsS74.set_0 | apply IsS74.set_1 | apply IsS74.set_2) | exact HI346.out)); (case side2 => repeat (first | (with_reducible first | exact HB.out | apply below_alloc | apply pw_below_drewN | apply below_drew1 | refine below_set ?_ (IsS74.ge HI346.out)) | exact HB.out)); rintro e w11 ⟨rfl, hi, hb, hk⟩; refine ⟨_, rfl, ?_⟩; have n0_ := Aside0.mk (hb); have n1_ := Aside0.mk (hi); clear HB; clear HI346; have HB := n0_; have HI346 := n1_; clear n0_ n1_; (try clear hb); (try clear hb2); (try clear hk); (try clear hi)) | ((with_reducible refine gate_callee (f := 36) rfl ?_); refine goesL_ (some 22) rfl rfl Try.func36 (by kernel_rfl) rfl #[.pointer (some ⟨g346, 0, none⟩)] rfl (by (try simp only [List.map_toArray, List.map_cons, List.map_nil]); first | done | rfl | (simp only [List.length_drop, List.length_take]; rfl)) ?_; (with_reducible refine (octets_Cursor_At.calls g346 t356 t357 t358 t359 t360 t361 t362 w _ ?side1 ?side2 A7.out).mono ?_); (case side1 => repeat (first | (with_reducible first | exact HI346.out | apply IsS74.alloc | apply IsS74.drewN | apply IsS74.drew | apply IsS74.set_0 | apply IsS74.set_1 | apply IsS74.set_2) | exact HI346.out)); (case side2 => repeat (first | (with_reducible first | exact HB.out | apply below_alloc | apply pw_below_drewN | apply below_drew1 | refine below_set ?_ (IsS74.ge HI346.out)) | exact HB.out)); rintro e w12 ⟨rfl, hi, hb, hk⟩; refine ⟨_, rfl, ?_⟩; have n0_ := Aside0.mk (hb); have n1_ := Aside0.mk (hi); clear HB; clear HI346; have HB := n0_; have HI346 := n1_; clear n0_ n1_; (try clear hb); (try clear hb2); (try clear hk); (try clear hi)))
    refine bodyPost_ret (results_list (rs := [.tmp 2, .tmp 3, .tmp 4, .tmp 5]) rfl (by simp) (.tmp (.tmp (.tmp (.tmp .nil))))) rfl ?_
    exact ⟨by first | rfl | (simp [errW_none, errW_some] <;> rfl) | (simp [*, errW_none, errW_some] <;> rfl), by repeat (first | (with_reducible first | exact HB.out | apply below_alloc | apply pw_below_drewN | apply below_drew1 | refine below_set ?_ (IsS74.ge HI346.out)) | exact HB.out)⟩
  · rw [if_neg c6] at H
    have c6b0 : (t355 == 0) = false := beq_eq_false_iff_ne.mpr c6
    have c6b1 : (t355 != 0) = true := bne_iff_ne.mpr c6
    simp only [Option.some.injEq, Prod.mk.injEq] at H
    obtain ⟨rfl, rfl, rfl, rfl⟩ := H
    go_enter Try.func23, Try.ntmps23
    go_wp2_with (first | ((with_reducible refine gate_callee (f := 31) rfl ?_); refine goesL_ (some 9) rfl rfl Try.func31 (by kernel_rfl) rfl #[.string a0] rfl (by (try simp only [List.map_toArray, List.map_cons, List.map_nil]); first | done | rfl | (simp only [List.length_drop, List.length_take]; rfl)) ?_; (with_reducible refine (octets_New.calls a0 t343 t344 t345 w _ ?side1 A2.out).mono ?_); (case side1 => repeat (first | (with_reducible first | exact HB.out | apply below_alloc | apply pw_below_drewN | apply below_drew1) | exact HB.out)); rintro e w13 ⟨g346, rfl, hi, hb, hb2⟩; refine ⟨_, rfl, ?_⟩; have n0_ := Aside0.mk (hb); have n1_ := Aside0.mk (hi); clear HB; have HB := n0_; have HI346 := n1_; clear n0_ n1_; (try clear hb); (try clear hb2); (try clear hk); (try clear hi)) | ((with_reducible refine gate_callee (f := 49) rfl ?_); refine goesL_ (some 11) rfl rfl Try.func49 (by kernel_rfl) rfl #[.pointer (some ⟨g346, 0, none⟩), .int .i64 2] rfl (by (try simp only [List.map_toArray, List.map_cons, List.map_nil]); first | done | rfl | (simp only [List.length_drop, List.length_take]; rfl)) ?_; (with_reducible refine (octets_Cursor_Int.calls g346 t343 t344 t345 2 t347 t348 t349 t350 w _ ?side1 ?side2 A3.out).mono ?_); (case side1 => repeat (first | (with_reducible first | exact HI346.out | apply IsS74.alloc | apply IsS74.drewN | apply IsS74.drew | apply IsS74.set_0 | apply IsS74.set_1 | apply IsS74.set_2) | exact HI346.out)); (case side2 => repeat (first | (with_reducible first | exact HB.out | apply below_alloc | apply pw_below_drewN | apply below_drew1 | refine below_set ?_ (IsS74.ge HI346.out)) | exact HB.out)); rintro e w14 ⟨rfl, hi, hb, hk⟩; refine ⟨_, rfl, ?_⟩; have n0_ := Aside0.mk (hb); have n1_ := Aside0.mk (hi); clear HB; clear HI346; have HB := n0_; have HI346 := n1_; clear n0_ n1_; (try clear hb); (try clear hb2); (try clear hk); (try clear hi)) | ((with_reducible refine gate_callee (f := 49) rfl ?_); refine goesL_ (some 13) rfl rfl Try.func49 (by kernel_rfl) rfl #[.pointer (some ⟨g346, 0, none⟩), .int .i64 2] rfl (by (try simp only [List.map_toArray, List.map_cons, List.map_nil]); first | done | rfl | (simp only [List.length_drop, List.length_take]; rfl)) ?_; (with_reducible refine (octets_Cursor_Int.calls g346 t348 t349 t350 2 t351 t352 t353 t354 w _ ?side1 ?side2 A4.out).mono ?_); (case side1 => repeat (first | (with_reducible first | exact HI346.out | apply IsS74.alloc | apply IsS74.drewN | apply IsS74.drew | apply IsS74.set_0 | apply IsS74.set_1 | apply IsS74.set_2) | exact HI346.out)); (case side2 => repeat (first | (with_reducible first | exact HB.out | apply below_alloc | apply pw_below_drewN | apply below_drew1 | refine below_set ?_ (IsS74.ge HI346.out)) | exact HB.out)); rintro e w15 ⟨rfl, hi, hb, hk⟩; refine ⟨_, rfl, ?_⟩; have n0_ := Aside0.mk (hb); have n1_ := Aside0.mk (hi); clear HB; clear HI346; have HB := n0_; have HI346 := n1_; clear n0_ n1_; (try clear hb); (try clear hb2); (try clear hk); (try clear hi)) | ((with_reducible refine gate_callee (f := 33) rfl ?_); refine goesL_ (some 15) rfl rfl Try.func33 (by kernel_rfl) rfl #[.pointer (some ⟨g346, 0, none⟩)] rfl (by (try simp only [List.map_toArray, List.map_cons, List.map_nil]); first | done | rfl | (simp only [List.length_drop, List.length_take]; rfl)) ?_; (with_reducible refine (octets_Cursor_Err.calls g346 t352 t353 t354 t355 t356 t357 t358 w _ ?side1 ?side2 A5.out).mono ?_); (case side1 => repeat (first | (with_reducible first | exact HI346.out | apply IsS74.alloc | apply IsS74.drewN | apply IsS74.drew | apply IsS74.set_0 | apply IsS74.set_1 | apply IsS74.set_2) | exact HI346.out)); (case side2 => repeat (first | (with_reducible first | exact HB.out | apply below_alloc | apply pw_below_drewN | apply below_drew1 | refine below_set ?_ (IsS74.ge HI346.out)) | exact HB.out)); rintro e w16 ⟨rfl, hi, hb, hk⟩; refine ⟨_, rfl, ?_⟩; have n0_ := Aside0.mk (hb); have n1_ := Aside0.mk (hi); clear HB; clear HI346; have HB := n0_; have HI346 := n1_; clear n0_ n1_; (try clear hb); (try clear hb2); (try clear hk); (try clear hi)))
    refine bodyPost_ret (results_list (rs := [.tmp 2, .tmp 3, .tmp 4, .tmp 5]) rfl (by simp) (.tmp (.tmp (.tmp (.tmp .nil))))) rfl ?_
    exact ⟨by first | rfl | (simp [errW_none, errW_some] <;> rfl) | (simp [*, errW_none, errW_some] <;> rfl), by repeat (first | (with_reducible first | exact HB.out | apply below_alloc | apply pw_below_drewN | apply below_drew1 | refine below_set ?_ (IsS74.ge HI346.out)) | exact HB.out)⟩

/-! ### miradorref16_CopyOf: function 24 -/
def miradorref16_CopyOf.f (k : Nat) (a0 : ByteArray) : Option (Int × Int × Int × Int) := if (a0.size : Int) < 4 then (some (0, 0, 0, 2)) else (if 0 ≤ 2 then (if 2 ≤ (a0.size : Int) then ((miradorref01_Int.f k (a0.extract 0 2)).bind fun t363 => (if 2 ≤ 4 then (if 4 ≤ (a0.size : Int) then ((miradorref01_Int.f k (a0.extract 2 4)).bind fun t364 => (some (t363, t364, 4, 0))) else (none)) else (none))) else (none)) else (none))
theorem miradorref16_CopyOf.mono : ∀ a0 k, LeO (miradorref16_CopyOf.f k a0) (miradorref16_CopyOf.f (k + 1) a0) := by
  intro a0 k
  unfold miradorref16_CopyOf.f
  repeat' first
      | (with_reducible exact miradorref01_Int.mono _ _)
      | (with_reducible exact LeO.refl _)
      | (with_reducible exact LeO.none _)
      | (with_reducible refine LeO.ite ?_ ?_)
      | (with_reducible refine LeO.bind ?_ (fun _ => ?_))
      | exact miradorref01_Int.mono _ _
      | exact LeO.none _
      | refine LeO.ite ?_ ?_
      | refine LeO.bind ?_ (fun _ => ?_)
set_option maxHeartbeats 8000000 in
set_option maxRecDepth 100000 in
theorem miradorref16_CopyOf.calls (k : Nat) (a0 : ByteArray) (r1 : Int) (r2 : Int) (r3 : Int) (r4 : Int) (w : World) (h : miradorref16_CopyOf.f k a0 = some (r1, r2, r3, r4)) :
    Calls Try.prog 24 #[.string a0] w fun e w' => e = .returned (.tuple #[.int .i64 r1, .int .i64 r2, .int .i64 r3, .int .i64 r4]) ∧ Drawn0 w w' := by
  have H : (if (a0.size : Int) < 4 then (some (0, 0, 0, 2)) else (if 0 ≤ 2 then (if 2 ≤ (a0.size : Int) then ((miradorref01_Int.f k (a0.extract 0 2)).bind fun t363 => (if 2 ≤ 4 then (if 4 ≤ (a0.size : Int) then ((miradorref01_Int.f k (a0.extract 2 4)).bind fun t364 => (some (t363, t364, 4, 0))) else (none)) else (none))) else (none)) else (none))) = some (r1, r2, r3, r4) := h
  clear h
  by_cases c2 : (a0.size : Int) < 4
  · rw [if_pos c2] at H
    have c2b0 : decide ((a0.size : Int) < 4) = true := decide_eq_true c2
    have c2b1 : decide (a0.size < 4) = true := decide_eq_true (by omega)
    clear c2
    simp only [Option.some.injEq, Prod.mk.injEq] at H
    obtain ⟨rfl, rfl, rfl, rfl⟩ := H
    go_enter Try.func24, Try.ntmps24
    go_wp2
    repeat (go_quiet (fail); try go_wp2)
    refine bodyPost_ret (results_list (rs := [.tmp 2, .tmp 3, .tmp 4, .tmp 5]) rfl (by simp) (.tmp (.tmp (.tmp (.tmp .nil))))) rfl ?_
    exact ⟨by first | rfl | (simp; done) | (simp [*]; done), by repeat (first | exact Drawn0.refl _ | apply Drawn0.step)⟩
  · rw [if_neg c2] at H
    have c2b0 : decide ((a0.size : Int) < 4) = false := decide_eq_false c2
    have c2b1 : decide (a0.size < 4) = false := decide_eq_false (by omega)
    clear c2
    by_cases c3 : 0 ≤ 2
    · rw [if_pos c3] at H
      have c3b0 := eq_true c3
      have c3b1 : decide (0 ≤ 2) = true := decide_eq_true c3
      clear c3
      by_cases c4 : 2 ≤ (a0.size : Int)
      · rw [if_pos c4] at H
        have c4b0 := eq_true c4
        have c4b1 : decide (2 ≤ (a0.size : Int)) = true := decide_eq_true c4
        clear c4
        replace H := Option.bind_eq_some_iff.mp H
        obtain ⟨t363, A50, H⟩ := H
        replace H : (if 2 ≤ 4 then (if 4 ≤ (a0.size : Int) then ((miradorref01_Int.f k (a0.extract 2 4)).bind fun t364 => (some (t363, t364, 4, 0))) else (none)) else (none)) = some (r1, r2, r3, r4) := H
        have A5 := Aside0.mk A50
        clear A50
        by_cases c6 : 2 ≤ 4
        · rw [if_pos c6] at H
          have c6b0 := eq_true c6
          have c6b1 : decide (2 ≤ 4) = true := decide_eq_true c6
          clear c6
          by_cases c7 : 4 ≤ (a0.size : Int)
          · rw [if_pos c7] at H
            have c7b0 := eq_true c7
            have c7b1 : decide (4 ≤ (a0.size : Int)) = true := decide_eq_true c7
            clear c7
            replace H := Option.bind_eq_some_iff.mp H
            obtain ⟨t364, A80, H⟩ := H
            replace H : (some (t363, t364, 4, 0)) = some (r1, r2, r3, r4) := H
            have A8 := Aside0.mk A80
            clear A80
            simp only [Option.some.injEq, Prod.mk.injEq] at H
            obtain ⟨rfl, rfl, rfl, rfl⟩ := H
            go_enter Try.func24, Try.ntmps24
            go_wp2_with (first | (go_at_call 50; (with_reducible refine (miradorref01_Int.calls k (a0.extract 0 2) t363 _ A5.out).mono ?_); rintro e w' ⟨rfl, ⟨nd, rfl⟩⟩; (try first | exact ⟨rfl, _, World.drewN_drewN _ _ _⟩ | exact ⟨rfl, _, Eq.trans (World.drewN_drewN _ _ _) (congrArg (World.drewN _) (Nat.add_assoc _ _ _))⟩)) | (go_at_call 50; (with_reducible refine (miradorref01_Int.calls k (a0.extract 2 4) t364 _ A8.out).mono ?_); rintro e w' ⟨rfl, ⟨nd, rfl⟩⟩; (try first | exact ⟨rfl, _, World.drewN_drewN _ _ _⟩ | exact ⟨rfl, _, Eq.trans (World.drewN_drewN _ _ _) (congrArg (World.drewN _) (Nat.add_assoc _ _ _))⟩)))
            repeat (go_quiet (first | (go_at_call 50; (with_reducible refine (miradorref01_Int.calls k (a0.extract 0 2) t363 _ A5.out).mono ?_); rintro e w' ⟨rfl, ⟨nd, rfl⟩⟩; (try first | exact ⟨rfl, _, World.drewN_drewN _ _ _⟩ | exact ⟨rfl, _, Eq.trans (World.drewN_drewN _ _ _) (congrArg (World.drewN _) (Nat.add_assoc _ _ _))⟩)) | (go_at_call 50; (with_reducible refine (miradorref01_Int.calls k (a0.extract 2 4) t364 _ A8.out).mono ?_); rintro e w' ⟨rfl, ⟨nd, rfl⟩⟩; (try first | exact ⟨rfl, _, World.drewN_drewN _ _ _⟩ | exact ⟨rfl, _, Eq.trans (World.drewN_drewN _ _ _) (congrArg (World.drewN _) (Nat.add_assoc _ _ _))⟩))); try go_wp2_with (first | (go_at_call 50; (with_reducible refine (miradorref01_Int.calls k (a0.extract 0 2) t363 _ A5.out).mono ?_); rintro e w' ⟨rfl, ⟨nd, rfl⟩⟩; (try first | exact ⟨rfl, _, World.drewN_drewN _ _ _⟩ | exact ⟨rfl, _, Eq.trans (World.drewN_drewN _ _ _) (congrArg (World.drewN _) (Nat.add_assoc _ _ _))⟩)) | (go_at_call 50; (with_reducible refine (miradorref01_Int.calls k (a0.extract 2 4) t364 _ A8.out).mono ?_); rintro e w' ⟨rfl, ⟨nd, rfl⟩⟩; (try first | exact ⟨rfl, _, World.drewN_drewN _ _ _⟩ | exact ⟨rfl, _, Eq.trans (World.drewN_drewN _ _ _) (congrArg (World.drewN _) (Nat.add_assoc _ _ _))⟩))))
            refine bodyPost_ret (results_list (rs := [.tmp 2, .tmp 3, .tmp 4, .tmp 5]) rfl (by simp) (.tmp (.tmp (.tmp (.tmp .nil))))) rfl ?_
            exact ⟨by first | rfl | (simp; done) | (simp [*]; done), by repeat (first | exact Drawn0.refl _ | apply Drawn0.step)⟩
          · rw [if_neg c7] at H
            exact absurd H (by simp)
        · rw [if_neg c6] at H
          exact absurd H (by simp)
      · rw [if_neg c4] at H
        exact absurd H (by simp)
    · rw [if_neg c3] at H
      exact absurd H (by simp)

/-! ### miradorlaw16_PlainCopies: function 6 -/
def miradorlaw16_PlainCopies.j0 : Nat → Int → Int → ByteArray → Bool → ByteArray → Int → Bool → Option (Bool)
  | 0, _, _, _, _, _, _, _ => none
  | k + 1, x0, x1, x2, x7, x8, x9, x80 => if x80 = true then (some false) else (if x9 = 0 then (if x8.size + x2.size ≤ 9223372036854775807 then ((plain_CopyOf.f (x8 ++ x2)).bind fun bt378 => (if x7 = true then (if bt378.1 = x0 then (if bt378.2.1 = x1 then (if bt378.2.2.1 = 4 then (some (bt378.2.2.2 == 0)) else (some false)) else (some false)) else (some false)) else (some false))) else (none)) else (if x7 = true then (some (x8.toList == ([] : List UInt8))) else (some false)))
def miradorlaw16_PlainCopies.f (k : Nat) (a0 : Int) (a1 : Int) (a2 : ByteArray) : Option (Bool) := (miradorlaw16_works.f k).bind fun t365 => (if t365 = true then (if (a2.size : Int) > 400 then (some t365) else ((plain_Copy.f k a0 a1).bind fun bt366 => ((miradorref16_Copy.f k a0 a1).bind fun bt368 => ((plain_CopyOf.f a2).bind fun bt370 => ((miradorref16_CopyOf.f k a2).bind fun bt374 => (if bt366.1.toList = bt368.1.toList then (if bt366.2 = bt368.2 then (if bt370.1 = bt374.1 then (if bt370.2.1 = bt374.2.1 then (if bt370.2.2.1 = bt374.2.2.1 then (miradorlaw16_PlainCopies.j0 k a0 a1 a2 t365 bt366.1 bt366.2 (bt370.2.2.2 != bt374.2.2.2)) else (miradorlaw16_PlainCopies.j0 k a0 a1 a2 t365 bt366.1 bt366.2 true)) else (miradorlaw16_PlainCopies.j0 k a0 a1 a2 t365 bt366.1 bt366.2 true)) else (miradorlaw16_PlainCopies.j0 k a0 a1 a2 t365 bt366.1 bt366.2 true)) else (miradorlaw16_PlainCopies.j0 k a0 a1 a2 t365 bt366.1 bt366.2 true)) else (miradorlaw16_PlainCopies.j0 k a0 a1 a2 t365 bt366.1 bt366.2 true))))))) else (some false))
theorem miradorlaw16_PlainCopies.mono_l : ∀ k, (∀ y0 y1 y2 y3 y4 y5 y6, LeO (miradorlaw16_PlainCopies.j0 k y0 y1 y2 y3 y4 y5 y6) (miradorlaw16_PlainCopies.j0 (k + 1) y0 y1 y2 y3 y4 y5 y6))
  | 0 => fun _ _ _ _ _ _ _ r h => by simp [miradorlaw16_PlainCopies.j0] at h
  | k + 1 => by
    have ih0 := miradorlaw16_PlainCopies.mono_l k
    · intro y0 y1 y2 y3 y4 y5 y6
      unfold miradorlaw16_PlainCopies.j0
      repeat' first
      | (with_reducible exact ih0 _ _ _ _ _ _ _)
      | (with_reducible exact miradorlaw16_works.mono _)
      | (with_reducible exact miradorref16_Copy.mono _ _ _)
      | (with_reducible exact miradorref16_CopyOf.mono _ _)
      | (with_reducible exact plain_Copy.mono _ _ _)
      | (with_reducible exact LeO.refl _)
      | (with_reducible exact LeO.none _)
      | (with_reducible refine LeO.ite ?_ ?_)
      | (with_reducible refine LeO.bind ?_ (fun _ => ?_))
      | exact ih0 _ _ _ _ _ _ _
      | exact miradorlaw16_works.mono _
      | exact miradorref16_Copy.mono _ _ _
      | exact miradorref16_CopyOf.mono _ _
      | exact plain_Copy.mono _ _ _
      | exact LeO.none _
      | refine LeO.ite ?_ ?_
      | refine LeO.bind ?_ (fun _ => ?_)
theorem miradorlaw16_PlainCopies.mono : ∀ a0 a1 a2 k, LeO (miradorlaw16_PlainCopies.f k a0 a1 a2) (miradorlaw16_PlainCopies.f (k + 1) a0 a1 a2) := by
  intro a0 a1 a2 k
  have ih0 := miradorlaw16_PlainCopies.mono_l k
  unfold miradorlaw16_PlainCopies.f
  repeat' first
      | (with_reducible exact ih0 _ _ _ _ _ _ _)
      | (with_reducible exact miradorlaw16_works.mono _)
      | (with_reducible exact miradorref16_Copy.mono _ _ _)
      | (with_reducible exact miradorref16_CopyOf.mono _ _)
      | (with_reducible exact plain_Copy.mono _ _ _)
      | (with_reducible exact LeO.refl _)
      | (with_reducible exact LeO.none _)
      | (with_reducible refine LeO.ite ?_ ?_)
      | (with_reducible refine LeO.bind ?_ (fun _ => ?_))
      | exact ih0 _ _ _ _ _ _ _
      | exact miradorlaw16_works.mono _
      | exact miradorref16_Copy.mono _ _ _
      | exact miradorref16_CopyOf.mono _ _
      | exact plain_Copy.mono _ _ _
      | exact LeO.none _
      | refine LeO.ite ?_ ?_
      | refine LeO.bind ?_ (fun _ => ?_)
set_option maxHeartbeats 8000000 in
set_option maxRecDepth 100000 in
theorem miradorlaw16_PlainCopies.calls1 (k : Nat) (a0 : Int) (a1 : Int) (a2 : ByteArray) (r : Bool) (w : World) (hr_ : r = true) (h : miradorlaw16_PlainCopies.f k a0 a1 a2 = some r) :
    Calls Try.prog 6 #[.int .i64 a0, .int .i64 a1, .string a2] w fun e w' => e = .returned (.bool r) ∧ Below w.heap.size w w' := by
  have HB := Aside0.mk (Below.refl w.heap.size w)
  have H : ((miradorlaw16_works.f k).bind fun t365 => (if t365 = true then (if (a2.size : Int) > 400 then (some t365) else ((plain_Copy.f k a0 a1).bind fun bt366 => ((miradorref16_Copy.f k a0 a1).bind fun bt368 => ((plain_CopyOf.f a2).bind fun bt370 => ((miradorref16_CopyOf.f k a2).bind fun bt374 => (if bt366.1.toList = bt368.1.toList then (if bt366.2 = bt368.2 then (if bt370.1 = bt374.1 then (if bt370.2.1 = bt374.2.1 then (if bt370.2.2.1 = bt374.2.2.1 then (miradorlaw16_PlainCopies.j0 k a0 a1 a2 t365 bt366.1 bt366.2 (bt370.2.2.2 != bt374.2.2.2)) else (miradorlaw16_PlainCopies.j0 k a0 a1 a2 t365 bt366.1 bt366.2 true)) else (miradorlaw16_PlainCopies.j0 k a0 a1 a2 t365 bt366.1 bt366.2 true)) else (miradorlaw16_PlainCopies.j0 k a0 a1 a2 t365 bt366.1 bt366.2 true)) else (miradorlaw16_PlainCopies.j0 k a0 a1 a2 t365 bt366.1 bt366.2 true)) else (miradorlaw16_PlainCopies.j0 k a0 a1 a2 t365 bt366.1 bt366.2 true))))))) else (some false))) = some r := h
  clear h
  have HRT := Aside0.mk hr_
  clear hr_
  replace H := Option.bind_eq_some_iff.mp H
  obtain ⟨t365, A40, H⟩ := H
  replace H : (if t365 = true then (if (a2.size : Int) > 400 then (some t365) else ((plain_Copy.f k a0 a1).bind fun bt366 => ((miradorref16_Copy.f k a0 a1).bind fun bt368 => ((plain_CopyOf.f a2).bind fun bt370 => ((miradorref16_CopyOf.f k a2).bind fun bt374 => (if bt366.1.toList = bt368.1.toList then (if bt366.2 = bt368.2 then (if bt370.1 = bt374.1 then (if bt370.2.1 = bt374.2.1 then (if bt370.2.2.1 = bt374.2.2.1 then (miradorlaw16_PlainCopies.j0 k a0 a1 a2 t365 bt366.1 bt366.2 (bt370.2.2.2 != bt374.2.2.2)) else (miradorlaw16_PlainCopies.j0 k a0 a1 a2 t365 bt366.1 bt366.2 true)) else (miradorlaw16_PlainCopies.j0 k a0 a1 a2 t365 bt366.1 bt366.2 true)) else (miradorlaw16_PlainCopies.j0 k a0 a1 a2 t365 bt366.1 bt366.2 true)) else (miradorlaw16_PlainCopies.j0 k a0 a1 a2 t365 bt366.1 bt366.2 true)) else (miradorlaw16_PlainCopies.j0 k a0 a1 a2 t365 bt366.1 bt366.2 true))))))) else (some false)) = some r := H
  have A4 := Aside0.mk A40
  clear A40
  by_cases c5 : t365 = true
  · subst c5
    have H1 : (if (a2.size : Int) > 400 then (some true) else ((plain_Copy.f k a0 a1).bind fun bt366 => ((miradorref16_Copy.f k a0 a1).bind fun bt368 => ((plain_CopyOf.f a2).bind fun bt370 => ((miradorref16_CopyOf.f k a2).bind fun bt374 => (if bt366.1.toList = bt368.1.toList then (if bt366.2 = bt368.2 then (if bt370.1 = bt374.1 then (if bt370.2.1 = bt374.2.1 then (if bt370.2.2.1 = bt374.2.2.1 then (miradorlaw16_PlainCopies.j0 k a0 a1 a2 true bt366.1 bt366.2 (bt370.2.2.2 != bt374.2.2.2)) else (miradorlaw16_PlainCopies.j0 k a0 a1 a2 true bt366.1 bt366.2 true)) else (miradorlaw16_PlainCopies.j0 k a0 a1 a2 true bt366.1 bt366.2 true)) else (miradorlaw16_PlainCopies.j0 k a0 a1 a2 true bt366.1 bt366.2 true)) else (miradorlaw16_PlainCopies.j0 k a0 a1 a2 true bt366.1 bt366.2 true)) else (miradorlaw16_PlainCopies.j0 k a0 a1 a2 true bt366.1 bt366.2 true))))))) = some r := by rw [if_pos rfl] at H; exact H
    clear H
    have H := H1
    clear H1
    by_cases c6 : (a2.size : Int) > 400
    · rw [if_pos c6] at H
      have c6b0 : decide (400 < (a2.size : Int)) = true := decide_eq_true c6
      have c6b1 : decide (400 < a2.size) = true := decide_eq_true (by omega)
      clear c6
      obtain rfl := Option.some.inj H
      go_enter Try.func6, Try.ntmps6
      go_wp2_with (first | ((with_reducible refine gate_callee (f := 7) rfl ?_); refine goesL_ (some 20) rfl rfl Try.func7 (by kernel_rfl) rfl #[] rfl (by (try simp only [List.map_toArray, List.map_cons, List.map_nil]); first | done | rfl | (simp only [List.length_drop, List.length_take]; rfl)) ?_; (with_reducible refine (miradorlaw16_works.calls k  true _ A4.out).mono ?_); rintro e w7 ⟨rfl, hb⟩; refine ⟨_, rfl, ?_⟩; have n0_ := Aside0.mk (below_step (by repeat (first | (with_reducible first | exact HB.out | apply below_alloc | apply pw_below_drewN | apply below_drew1) | exact HB.out)) hb); clear HB; have HB := n0_; clear n0_; (try clear hb); (try clear hb2); (try clear hk); (try clear hi)))
      go_ret
      exact ⟨by first | rfl | (simp [errW_none, errW_some] <;> rfl) | (simp [*, errW_none, errW_some] <;> rfl), by repeat (first | (with_reducible first | exact HB.out | apply below_alloc | apply pw_below_drewN | apply below_drew1) | exact HB.out)⟩
    · rw [if_neg c6] at H
      have c6b0 : decide (400 < (a2.size : Int)) = false := decide_eq_false c6
      have c6b1 : decide (400 < a2.size) = false := decide_eq_false (by omega)
      clear c6
      replace H := Option.bind_eq_some_iff.mp H
      obtain ⟨⟨t366, t367⟩, A80, H⟩ := H
      replace H : ((miradorref16_Copy.f k a0 a1).bind fun bt368 => ((plain_CopyOf.f a2).bind fun bt370 => ((miradorref16_CopyOf.f k a2).bind fun bt374 => (if t366.toList = bt368.1.toList then (if t367 = bt368.2 then (if bt370.1 = bt374.1 then (if bt370.2.1 = bt374.2.1 then (if bt370.2.2.1 = bt374.2.2.1 then (miradorlaw16_PlainCopies.j0 k a0 a1 a2 true t366 t367 (bt370.2.2.2 != bt374.2.2.2)) else (miradorlaw16_PlainCopies.j0 k a0 a1 a2 true t366 t367 true)) else (miradorlaw16_PlainCopies.j0 k a0 a1 a2 true t366 t367 true)) else (miradorlaw16_PlainCopies.j0 k a0 a1 a2 true t366 t367 true)) else (miradorlaw16_PlainCopies.j0 k a0 a1 a2 true t366 t367 true)) else (miradorlaw16_PlainCopies.j0 k a0 a1 a2 true t366 t367 true))))) = some r := H
      have A8 := Aside0.mk A80
      clear A80
      replace H := Option.bind_eq_some_iff.mp H
      obtain ⟨⟨t368, t369⟩, A90, H⟩ := H
      replace H : ((plain_CopyOf.f a2).bind fun bt370 => ((miradorref16_CopyOf.f k a2).bind fun bt374 => (if t366.toList = t368.toList then (if t367 = t369 then (if bt370.1 = bt374.1 then (if bt370.2.1 = bt374.2.1 then (if bt370.2.2.1 = bt374.2.2.1 then (miradorlaw16_PlainCopies.j0 k a0 a1 a2 true t366 t367 (bt370.2.2.2 != bt374.2.2.2)) else (miradorlaw16_PlainCopies.j0 k a0 a1 a2 true t366 t367 true)) else (miradorlaw16_PlainCopies.j0 k a0 a1 a2 true t366 t367 true)) else (miradorlaw16_PlainCopies.j0 k a0 a1 a2 true t366 t367 true)) else (miradorlaw16_PlainCopies.j0 k a0 a1 a2 true t366 t367 true)) else (miradorlaw16_PlainCopies.j0 k a0 a1 a2 true t366 t367 true)))) = some r := H
      have A9 := Aside0.mk A90
      clear A90
      replace H := Option.bind_eq_some_iff.mp H
      obtain ⟨⟨t370, t371, t372, t373⟩, A100, H⟩ := H
      replace H : ((miradorref16_CopyOf.f k a2).bind fun bt374 => (if t366.toList = t368.toList then (if t367 = t369 then (if t370 = bt374.1 then (if t371 = bt374.2.1 then (if t372 = bt374.2.2.1 then (miradorlaw16_PlainCopies.j0 k a0 a1 a2 true t366 t367 (t373 != bt374.2.2.2)) else (miradorlaw16_PlainCopies.j0 k a0 a1 a2 true t366 t367 true)) else (miradorlaw16_PlainCopies.j0 k a0 a1 a2 true t366 t367 true)) else (miradorlaw16_PlainCopies.j0 k a0 a1 a2 true t366 t367 true)) else (miradorlaw16_PlainCopies.j0 k a0 a1 a2 true t366 t367 true)) else (miradorlaw16_PlainCopies.j0 k a0 a1 a2 true t366 t367 true))) = some r := H
      have A10 := Aside0.mk A100
      clear A100
      replace H := Option.bind_eq_some_iff.mp H
      obtain ⟨⟨t374, t375, t376, t377⟩, A110, H⟩ := H
      replace H : (if t366.toList = t368.toList then (if t367 = t369 then (if t370 = t374 then (if t371 = t375 then (if t372 = t376 then (miradorlaw16_PlainCopies.j0 k a0 a1 a2 true t366 t367 (t373 != t377)) else (miradorlaw16_PlainCopies.j0 k a0 a1 a2 true t366 t367 true)) else (miradorlaw16_PlainCopies.j0 k a0 a1 a2 true t366 t367 true)) else (miradorlaw16_PlainCopies.j0 k a0 a1 a2 true t366 t367 true)) else (miradorlaw16_PlainCopies.j0 k a0 a1 a2 true t366 t367 true)) else (miradorlaw16_PlainCopies.j0 k a0 a1 a2 true t366 t367 true)) = some r := H
      have A11 := Aside0.mk A110
      clear A110
      have HC12 := Aside0.mk H
      clear H
      go_enter Try.func6, Try.ntmps6
      go_upto_region 10 with (first | ((with_reducible refine gate_callee (f := 7) rfl ?_); refine goesL_ (some 20) rfl rfl Try.func7 (by kernel_rfl) rfl #[] rfl (by (try simp only [List.map_toArray, List.map_cons, List.map_nil]); first | done | rfl | (simp only [List.length_drop, List.length_take]; rfl)) ?_; (with_reducible refine (miradorlaw16_works.calls k  true _ A4.out).mono ?_); rintro e w13 ⟨rfl, hb⟩; refine ⟨_, rfl, ?_⟩; have n0_ := Aside0.mk (below_step (by repeat (first | (with_reducible first | exact HB.out | apply below_alloc | apply pw_below_drewN | apply below_drew1) | exact HB.out)) hb); clear HB; have HB := n0_; clear n0_; (try clear hb); (try clear hb2); (try clear hk); (try clear hi)) | ((with_reducible refine gate_callee (f := 21) rfl ?_); refine goesL_ (some 30) rfl rfl Try.func21 (by kernel_rfl) rfl #[.int .i64 a0, .int .i64 a1] rfl (by (try simp only [List.map_toArray, List.map_cons, List.map_nil]); first | done | rfl | (simp only [List.length_drop, List.length_take]; rfl)) ?_; (with_reducible refine (plain_Copy.calls k a0 a1 t366 t367 _ A8.out).mono ?_); rintro e w14 ⟨rfl, hb⟩; refine ⟨_, rfl, ?_⟩; have n0_ := Aside0.mk (below_step (by repeat (first | (with_reducible first | exact HB.out | apply below_alloc | apply pw_below_drewN | apply below_drew1) | exact HB.out)) hb); clear HB; have HB := n0_; clear n0_; (try clear hb); (try clear hb2); (try clear hk); (try clear hi)) | ((with_reducible refine gate_callee (f := 22) rfl ?_); refine goesL_ (some 36) rfl rfl Try.func22 (by kernel_rfl) rfl #[.int .i64 a0, .int .i64 a1] rfl (by (try simp only [List.map_toArray, List.map_cons, List.map_nil]); first | done | rfl | (simp only [List.length_drop, List.length_take]; rfl)) ?_; (with_reducible refine (miradorref16_Copy.calls k a0 a1 t368 t369 _ A9.out).mono ?_); rintro e w15 ⟨rfl, hb⟩; refine ⟨_, rfl, ?_⟩; have n0_ := Aside0.mk (below_step (by repeat (first | (with_reducible first | exact HB.out | apply below_alloc | apply pw_below_drewN | apply below_drew1) | exact HB.out)) hb); clear HB; have HB := n0_; clear n0_; (try clear hb); (try clear hb2); (try clear hk); (try clear hi)) | ((with_reducible refine gate_callee (f := 23) rfl ?_); refine goesL_ (some 41) rfl rfl Try.func23 (by kernel_rfl) rfl #[.string a2] rfl (by (try simp only [List.map_toArray, List.map_cons, List.map_nil]); first | done | rfl | (simp only [List.length_drop, List.length_take]; rfl)) ?_; (with_reducible refine (plain_CopyOf.calls a2 t370 t371 t372 t373 _ A10.out).mono ?_); rintro e w16 ⟨rfl, hb⟩; refine ⟨_, rfl, ?_⟩; have n0_ := Aside0.mk (below_step (by repeat (first | (with_reducible first | exact HB.out | apply below_alloc | apply pw_below_drewN | apply below_drew1) | exact HB.out)) hb); clear HB; have HB := n0_; clear n0_; (try clear hb); (try clear hb2); (try clear hk); (try clear hi)) | ((with_reducible refine gate_callee (f := 24) rfl ?_); refine goesL_ (some 48) rfl rfl Try.func24 (by kernel_rfl) rfl #[.string a2] rfl (by (try simp only [List.map_toArray, List.map_cons, List.map_nil]); first | done | rfl | (simp only [List.length_drop, List.length_take]; rfl)) ?_; (with_reducible refine (miradorref16_CopyOf.calls k a2 t374 t375 t376 t377 _ A11.out).mono ?_); rintro e w' ⟨rfl, ⟨nd, rfl⟩⟩; refine ⟨_, rfl, ?_⟩))
      (try simp only [Act.put, List.setIfInBounds_toArray, List.set_cons_zero, List.set_cons_succ])
      go_cut [80] (fun v80 wc => ∃ (kq : Nat) (x80_11 : Bool), v80 = .bool x80_11 ∧ Aside0 (miradorlaw16_PlainCopies.j0 kq a0 a1 a2 true t366 t367 x80_11 = some r) ∧ Aside0 (kq ≤ k) ∧ Aside0 (Below w.heap.size w wc))
      case first =>
        have H := HC12.out
        clear HC12
        by_cases c17 : t366.toList = t368.toList
        · rw [if_pos c17] at H
          have c17b0 : (t366.toList == t368.toList) = true := beq_iff_eq.mpr c17
          have c17b1 : (t366.toList != t368.toList) = false := bne_eq_false_iff_eq.mpr c17
          clear c17
          (first | rw [c17b0] | (simp only [i64_w, i32_w]; rw [c17b0]) | skip)
          by_cases c18 : t367 = t369
          · rw [if_pos c18] at H
            have c18b0 : (t367 == t369) = true := beq_iff_eq.mpr c18
            have c18b1 : (t367 != t369) = false := bne_eq_false_iff_eq.mpr c18
            clear c18
            by_cases c19 : t370 = t374
            · rw [if_pos c19] at H
              have c19b0 : (t370 == t374) = true := beq_iff_eq.mpr c19
              have c19b1 : (t370 != t374) = false := bne_eq_false_iff_eq.mpr c19
              clear c19
              by_cases c20 : t371 = t375
              · rw [if_pos c20] at H
                have c20b0 : (t371 == t375) = true := beq_iff_eq.mpr c20
                have c20b1 : (t371 != t375) = false := bne_eq_false_iff_eq.mpr c20
                clear c20
                by_cases c21 : t372 = t376
                · rw [if_pos c21] at H
                  have c21b0 : (t372 == t376) = true := beq_iff_eq.mpr c21
                  have c21b1 : (t372 != t376) = false := bne_eq_false_iff_eq.mpr c21
                  clear c21
                  have H' := Aside0.mk H
                  clear H
                  go_wp2
                  go_meet
                  case rel => exact ⟨_, ((t373 != t377)), (by first | rfl | (simp; done) | (simp [*]; done)), H', ⟨by first | omega | exact Nat.le_refl _⟩, ⟨by repeat (first | (with_reducible first | exact HB.out | apply below_alloc | apply pw_below_drewN | apply below_drew1) | exact HB.out)⟩⟩
                · rw [if_neg c21] at H
                  have c21b0 : (t372 == t376) = false := beq_eq_false_iff_ne.mpr c21
                  have c21b1 : (t372 != t376) = true := bne_iff_ne.mpr c21
                  have H' := Aside0.mk H
                  clear H
                  go_wp2
                  go_meet
                  case rel => exact ⟨_, (true), (by first | rfl | (simp; done) | (simp [*]; done)), H', ⟨by first | omega | exact Nat.le_refl _⟩, ⟨by repeat (first | (with_reducible first | exact HB.out | apply below_alloc | apply pw_below_drewN | apply below_drew1) | exact HB.out)⟩⟩
              · rw [if_neg c20] at H
                have c20b0 : (t371 == t375) = false := beq_eq_false_iff_ne.mpr c20
                have c20b1 : (t371 != t375) = true := bne_iff_ne.mpr c20
                have H' := Aside0.mk H
                clear H
                go_wp2
                go_meet
                case rel => exact ⟨_, (true), (by first | rfl | (simp; done) | (simp [*]; done)), H', ⟨by first | omega | exact Nat.le_refl _⟩, ⟨by repeat (first | (with_reducible first | exact HB.out | apply below_alloc | apply pw_below_drewN | apply below_drew1) | exact HB.out)⟩⟩
            · rw [if_neg c19] at H
              have c19b0 : (t370 == t374) = false := beq_eq_false_iff_ne.mpr c19
              have c19b1 : (t370 != t374) = true := bne_iff_ne.mpr c19
              have H' := Aside0.mk H
              clear H
              go_wp2
              go_meet
              case rel => exact ⟨_, (true), (by first | rfl | (simp; done) | (simp [*]; done)), H', ⟨by first | omega | exact Nat.le_refl _⟩, ⟨by repeat (first | (with_reducible first | exact HB.out | apply below_alloc | apply pw_below_drewN | apply below_drew1) | exact HB.out)⟩⟩
          · rw [if_neg c18] at H
            have c18b0 : (t367 == t369) = false := beq_eq_false_iff_ne.mpr c18
            have c18b1 : (t367 != t369) = true := bne_iff_ne.mpr c18
            have H' := Aside0.mk H
            clear H
            go_wp2
            go_meet
            case rel => exact ⟨_, (true), (by first | rfl | (simp; done) | (simp [*]; done)), H', ⟨by first | omega | exact Nat.le_refl _⟩, ⟨by repeat (first | (with_reducible first | exact HB.out | apply below_alloc | apply pw_below_drewN | apply below_drew1) | exact HB.out)⟩⟩
        · rw [if_neg c17] at H
          have c17b0 : (t366.toList == t368.toList) = false := beq_eq_false_iff_ne.mpr c17
          have c17b1 : (t366.toList != t368.toList) = true := bne_iff_ne.mpr c17
          (first | rw [c17b0] | (simp only [i64_w, i32_w]; rw [c17b0]) | skip)
          have H' := Aside0.mk H
          clear H
          go_wp2
          go_meet
          case rel => exact ⟨_, (true), (by first | rfl | (simp; done) | (simp [*]; done)), H', ⟨by first | omega | exact Nat.le_refl _⟩, ⟨by repeat (first | (with_reducible first | exact HB.out | apply below_alloc | apply pw_below_drewN | apply below_drew1) | exact HB.out)⟩⟩
      case rest =>
        clear HC12
        try clear c1
        try clear c2
        try clear p2
        try clear c5
        try clear c6
        try clear c6b0
        try clear c6b1
        try clear c7
        try clear c17
        try clear c17b0
        try clear c17b1
        try clear c18
        try clear c18b0
        try clear c18b1
        try clear c19
        try clear c19b0
        try clear c19b1
        try clear c20
        try clear c20b0
        try clear c20b1
        try clear c21
        try clear c21b0
        try clear c21b1
        obtain ⟨kq, x80_11, rfl, HA, HJ11, HB⟩ := hcut
        cases kq with
        | zero => exact absurd HA.out (by simp [miradorlaw16_PlainCopies.j0])
        | succ kj11 =>
          have H := HA.out
          clear HA
          simp only [miradorlaw16_PlainCopies.j0] at H
          by_cases c22 : x80_11 = true
          · subst c22
            have H1 : (some false) = some r := by rw [if_pos rfl] at H; exact H
            clear H
            have H := H1
            clear H1
            rw [HRT.out] at H
            exact absurd (Option.some.inj H) (by decide)
          · replace c22 := Bool.eq_false_iff.mpr c22
            subst c22
            have H1 : (if t367 = 0 then (if t366.size + a2.size ≤ 9223372036854775807 then ((plain_CopyOf.f (t366 ++ a2)).bind fun bt378 => (if true = true then (if bt378.1 = a0 then (if bt378.2.1 = a1 then (if bt378.2.2.1 = 4 then (some (bt378.2.2.2 == 0)) else (some false)) else (some false)) else (some false)) else (some false))) else (none)) else (if true = true then (some (t366.toList == ([] : List UInt8))) else (some false))) = some r := by rw [if_neg (show ¬ (false = true) by decide)] at H; exact H
            clear H
            have H := H1
            clear H1
            by_cases c23 : t367 = 0
            · rw [if_pos c23] at H
              have c23b0 : (t367 == 0) = true := beq_iff_eq.mpr c23
              have c23b1 : (t367 != 0) = false := bne_eq_false_iff_eq.mpr c23
              clear c23
              by_cases c24 : t366.size + a2.size ≤ 9223372036854775807
              · rw [if_pos c24] at H
                have c24b0 := eq_true c24
                have c24b1 : decide (t366.size + a2.size ≤ 9223372036854775807) = true := decide_eq_true c24
                try have c24b2 : (9223372036854775807 < t366.size + a2.size) = False := eq_false (Nat.not_lt.2 c24)
                replace H := Option.bind_eq_some_iff.mp H
                obtain ⟨⟨t378, t379, t380, t381⟩, A250, H⟩ := H
                replace H : (if true = true then (if t378 = a0 then (if t379 = a1 then (if t380 = 4 then (some (t381 == 0)) else (some false)) else (some false)) else (some false)) else (some false)) = some r := H
                have A25 := Aside0.mk A250
                clear A250
                have H1 : (if t378 = a0 then (if t379 = a1 then (if t380 = 4 then (some (t381 == 0)) else (some false)) else (some false)) else (some false)) = some r := by (first | rw [if_pos rfl] at H | rw [if_pos trivial] at H); exact H
                clear H
                have H := H1
                clear H1
                by_cases c26 : t378 = a0
                · rw [if_pos c26] at H
                  have c26b0 : (t378 == a0) = true := beq_iff_eq.mpr c26
                  have c26b1 : (t378 != a0) = false := bne_eq_false_iff_eq.mpr c26
                  clear c26
                  by_cases c27 : t379 = a1
                  · rw [if_pos c27] at H
                    have c27b0 : (t379 == a1) = true := beq_iff_eq.mpr c27
                    have c27b1 : (t379 != a1) = false := bne_eq_false_iff_eq.mpr c27
                    clear c27
                    by_cases c28 : t380 = 4
                    · rw [if_pos c28] at H
                      have c28b0 : (t380 == 4) = true := beq_iff_eq.mpr c28
                      have c28b1 : (t380 != 4) = false := bne_eq_false_iff_eq.mpr c28
                      clear c28
                      obtain rfl := Option.some.inj H
                      go_wp2_with (first | ((with_reducible refine gate_callee (f := 23) rfl ?_); refine goesL_ (some 92) rfl rfl Try.func23 (by kernel_rfl) rfl #[.string (t366 ++ a2)] rfl (by (try simp only [List.map_toArray, List.map_cons, List.map_nil]); first | done | rfl | (simp only [List.length_drop, List.length_take]; rfl)) ?_; (with_reducible refine (plain_CopyOf.calls (t366 ++ a2) t378 t379 t380 t381 _ A25.out).mono ?_); rintro e w29 ⟨rfl, hb⟩; refine ⟨_, rfl, ?_⟩; have n0_ := Aside0.mk (below_step (by repeat (first | (with_reducible first | exact HB.out | apply below_alloc | apply pw_below_drewN | apply below_drew1) | exact HB.out)) hb); clear HB; have HB := n0_; clear n0_; (try clear hb); (try clear hb2); (try clear hk); (try clear hi)))
                      go_ret
                      exact ⟨by first | rfl | (simp [errW_none, errW_some] <;> rfl) | (simp [*, errW_none, errW_some] <;> rfl), by repeat (first | (with_reducible first | exact HB.out | apply below_alloc | apply pw_below_drewN | apply below_drew1) | exact HB.out)⟩
                    · rw [if_neg c28] at H
                      have c28b0 : (t380 == 4) = false := beq_eq_false_iff_ne.mpr c28
                      have c28b1 : (t380 != 4) = true := bne_iff_ne.mpr c28
                      rw [HRT.out] at H
                      exact absurd (Option.some.inj H) (by decide)
                  · rw [if_neg c27] at H
                    have c27b0 : (t379 == a1) = false := beq_eq_false_iff_ne.mpr c27
                    have c27b1 : (t379 != a1) = true := bne_iff_ne.mpr c27
                    rw [HRT.out] at H
                    exact absurd (Option.some.inj H) (by decide)
                · rw [if_neg c26] at H
                  have c26b0 : (t378 == a0) = false := beq_eq_false_iff_ne.mpr c26
                  have c26b1 : (t378 != a0) = true := bne_iff_ne.mpr c26
                  rw [HRT.out] at H
                  exact absurd (Option.some.inj H) (by decide)
              · rw [if_neg c24] at H
                exact absurd H (by simp)
            · rw [if_neg c23] at H
              have c23b0 : (t367 == 0) = false := beq_eq_false_iff_ne.mpr c23
              have c23b1 : (t367 != 0) = true := bne_iff_ne.mpr c23
              have H1 : (some (t366.toList == ([] : List UInt8))) = some r := by (first | rw [if_pos rfl] at H | rw [if_pos trivial] at H); exact H
              clear H
              have H := H1
              clear H1
              obtain rfl := Option.some.inj H
              go_wp2
              go_ret
              exact ⟨by first | rfl | (simp [errW_none, errW_some] <;> rfl) | (simp [*, errW_none, errW_some] <;> rfl), by repeat (first | (with_reducible first | exact HB.out | apply below_alloc | apply pw_below_drewN | apply below_drew1) | exact HB.out)⟩
  · replace c5 := Bool.eq_false_iff.mpr c5
    subst c5
    have H1 : (some false) = some r := by rw [if_neg (show ¬ (false = true) by decide)] at H; exact H
    clear H
    have H := H1
    clear H1
    rw [HRT.out] at H
    exact absurd (Option.some.inj H) (by decide)

/-- THE ONE PURE STATEMENT of miradorlaw16_PlainCopies: yours. -/
def miradorlaw16_PlainCopies.Pure : Prop := ∀ (a0 : Int) (a1 : Int) (a2 : ByteArray), (Lit.int .i64 a0).wf = true → (Lit.int .i64 a1).wf = true → a2.size ≤ 140737488351232 → ∃ k, miradorlaw16_PlainCopies.f k a0 a1 a2 = some true
theorem miradorlaw16_PlainCopies.walk (P : miradorlaw16_PlainCopies.Pure) (a0 : Int) (a1 : Int) (a2 : ByteArray) (w : World) (w0 : (Lit.int .i64 a0).wf = true) (w1 : (Lit.int .i64 a1).wf = true) (w2 : a2.size ≤ 140737488351232) :
    Calls Try.prog 6 #[.int .i64 a0, .int .i64 a1, .string a2] w fun e w' => e = .returned (.bool true) ∧ Below w.heap.size w w' := by
  obtain ⟨k, h⟩ := P a0 a1 a2 w0 w1 w2
  refine (miradorlaw16_PlainCopies.calls1 k a0 a1 a2 true w rfl h).mono ?_
  rintro e w' ⟨rfl, hd⟩
  exact ⟨rfl, hd⟩

end Go.Proofs.Ytloigmonfbfieaa.X
