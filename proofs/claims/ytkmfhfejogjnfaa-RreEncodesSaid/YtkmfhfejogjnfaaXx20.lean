/- What each Go function that these laws use answers: as a Lean function, with the proof that the machine's call comes to it. Written by a program of this session (xprint.py). -/
import Derived.Test.YtkmfhfejogjnfaaXx0
import Derived.Test.YtkmfhfejogjnfaaXx12
import Derived.Test.YtkmfhfejogjnfaaXx18
import Derived.Test.YtkmfhfejogjnfaaXx19
namespace Go.Proofs.Ytkmfhfejogjnfaa.X
open Go.RowKit Go.Proofs.YtkmfhfejogjnfaaW.PrintWords Go.Proofs.YtkmfhfejogjnfaaW.PrintLast Go.Proofs.YtkmfhfejogjnfaaW.PrintMore
attribute [local go_sem] max2_int min2_int max_two min_two max_three min_three max_four min_four   -- for this text's walks alone
set_option linter.unusedVariables false
set_option linter.unusedSimpArgs false

/-! ### octets_Cursor_Int: function 39 -/
def octets_leK (l : List Int) : Nat → Int
  | 0 => 0
  | k + 1 => Go.bits .or .i64 (octets_leK l k) (wrap64 (l.getD k 0 * 2 ^ (8 * k)))
def octets_turnT (s : ByteArray) : ByteArray := strOfNums (bytesOf s).reverse
theorem octets_turnT_ok (s : ByteArray) (w : World) (hs : s.size ≤ 4) : Hid ((octets_turnT s).size ≤ 4 ∧ Calls Try.prog 63 #[.string s] w fun e w' => e = .returned (.string (octets_turnT s)) ∧ Below w.heap.size w w') :=
  Lib.hid ⟨by unfold octets_turnT; rw [strOfNums_size, List.length_reverse, bytesOf_length]; exact hs, octets_turned.calls s _ w (by unfold octets_turned.f; rw [if_pos (by omega)]; rfl)⟩
/-- What a number of bytes is, the least byte first, as the loop reckons it. -/
def octets_numberT.f (s0_0 : ByteArray) (s0_1 s0_2 : Int) (a1 : Int) : Option (Int × ByteArray × Int × Int) :=
  (octets_wide.f a1).bind fun wd => (if wd = true then some (s0_0, s0_1, s0_2) else octets_Cursor_fail.f s0_0 s0_1 s0_2 1).bind fun st =>
  (octets_Cursor_Bytes.f st.1 st.2.1 st.2.2 a1).bind fun r => if r.1.size ≤ 4 then some (octets_leK (bytesOf (octets_turnT r.1)) (octets_turnT r.1).size, r.2.1, r.2.2.1, r.2.2.2) else none
section
open Go.Sort Go.Lib
set_option maxHeartbeats 1600000 in
set_option maxRecDepth 100000 in
theorem octets_numberT.calls (hT : ∀ (s : ByteArray) (w : World), s.size ≤ 4 → Hid ((octets_turnT s).size ≤ 4 ∧ Calls Try.prog 63 #[.string s] w fun e w' => e = .returned (.string (octets_turnT s)) ∧ Below w.heap.size w w'))
    (g : Nat) (s0_0 : ByteArray) (s0_1 s0_2 a1 : Int) (r1 : Int) (r2 : ByteArray) (r3 r4 : Int) (w0 w : World) (hI : IsS96 w0 w g s0_0 s0_1 s0_2) (hB : Below w0.heap.size w0 w)
    (h : octets_numberT.f s0_0 s0_1 s0_2 a1 = some (r1, r2, r3, r4)) :
    Calls Try.prog 62 #[.pointer (some ⟨g, 0, none⟩), .int .i64 a1, .func (.func 63) #[] #[]] w fun e w' => e = .returned (.int .i64 r1) ∧ IsS96 w0 w' g r2 r3 r4 ∧ Below w0.heap.size w0 w' ∧ KeepBut w w' g none := by
  have HI := Lib.hid hI
  have HB := Lib.hid hB
  clear hI hB
  unfold octets_numberT.f at h
  obtain ⟨wd, hw, h⟩ := Option.bind_eq_some_iff.mp h
  obtain ⟨⟨p0, p1, p2⟩, hf, h⟩ := Option.bind_eq_some_iff.mp h
  obtain ⟨⟨b1, b2, b3, b4⟩, hb, h⟩ := Option.bind_eq_some_iff.mp h
  dsimp only at hb h
  split at h
  case isFalse => exact absurd h (by simp)
  case isTrue hr =>
  simp only [Option.some.injEq, Prod.mk.injEq] at h
  obtain ⟨h1, rfl, rfl, rfl⟩ := h
  have HW := Lib.hid hw
  have HH := Lib.hid hb
  have H1 := Lib.hid h1
  clear hw hb h1
  have HT := hT b1
  clear hT
  cases wd with
  | true =>
    rw [if_pos rfl] at hf
    simp only [Option.some.injEq, Prod.mk.injEq] at hf
    obtain ⟨rfl, rfl, rfl⟩ := hf
    go_enter Try.func62, Try.ntmps62
    go_wp2_with (first | (go_at_call 84; refine (octets_wide.calls a1 true _ HW.out).mono ?_; rintro e w' ⟨rfl, ⟨nd, rfl⟩⟩) | (go_at_call 41; refine (octets_Cursor_Bytes.calls g s0_0 s0_1 s0_2 a1 b1 b2 b3 b4 w0 _ (IsS96.drewN HI.out nd) (pw_below_drewN HB.out nd) HH.out).mono ?_; rintro e w1 ⟨rfl, hi, hb, hk⟩; have HI1 := Lib.hid hi; have HB1 := Lib.hid hb; have HK1 := Lib.hid (KeepBut.trans (keep_drewN (KeepBut.refl w g none) nd) hk (.inl rfl)); clear hi hb hk) | (go_at_call 63; obtain ⟨ht1, ht2⟩ := (HT w1 hr).out; clear HT; refine ht2.mono ?_; clear ht2; rintro e w2 ⟨rfl, hb⟩; have HB2 := Lib.hid hb; clear hb; have hcv := fun wx => Go.Lib.run_convert_string_bytes (P := Try.prog) wx 9 63 5 (octets_turnT b1) Try.underlying9 Try.underlying63 Try.underlying5))
    have hl : (bytesOf (octets_turnT b1)).length = (octets_turnT b1).size := bytesOf_length _
    have HL := Lib.hid hl
    have HC : ∀ k, k < (octets_turnT b1).size → Hid ((Lib.bytesWorld w2 5 (octets_turnT b1)).cell? ⟨w2.heap.size, k, none⟩ = some (.int .u8 ((bytesOf (octets_turnT b1)).getD k 0)) ∧ 0 ≤ (bytesOf (octets_turnT b1)).getD k 0 ∧ (bytesOf (octets_turnT b1)).getD k 0 ≤ 255) := by
      intro k hk
      refine Lib.hid ⟨?_, ?_, ?_⟩
      · rw [Lib.bytesWorld_cell w2 5 (octets_turnT b1) k hk]
        simp [bytesOf, List.getD, List.getElem?_eq_getElem, hk]
      · simp [bytesOf, List.getD, List.getElem?_eq_getElem, hk]
      · have : ((octets_turnT b1).data.toList.getD k 0).toNat < 256 := UInt8.toNat_lt _
        simp [bytesOf, List.getD, List.getElem?_eq_getElem, hk] at this ⊢
        omega
    clear hl hcv
    generalize octets_turnT b1 = V at *
    go_loop [7, 22] (fun n i => ∃ k : Nat, k ≤ V.size ∧ i = .int .i64 k ∧ n = .int .i64 (octets_leK (bytesOf V) k)) (fun _ i => V.size - (RowKit.intOf i).toNat)
    case atStart => exact ⟨0, Nat.zero_le _, rfl, rfl⟩
    case round =>
      obtain ⟨k, hk, rfl, rfl⟩ := hrel
      by_cases hlt : k < V.size
      · obtain ⟨hc, hb0, hb1⟩ := (HC k hlt).out
        clear HC
        have h4 : k ≤ 3 := by omega
        have hn : octets_leK (bytesOf V) (k + 1) = Go.bits .or .i64 (octets_leK (bytesOf V) k) (wrap64 ((bytesOf V).getD k 0 * 2 ^ (8 * k))) := rfl
        generalize (bytesOf V).getD k 0 = b at *
        have HN := Lib.hid hn
        clear hn
        go_wp2
        go_round
        case rel => exact ⟨k + 1, by omega, by go_num, by rw [HN.out]⟩
        case measure => simp [RowKit.intOf]; omega
      · obtain rfl : k = V.size := by omega
        clear HC
        go_wp2
        go_ret
        have hB2 : Below w1.heap.size w1 (Lib.bytesWorld w2 5 V) := HB2.out.trans ((bytesWorld_below w2 5 V).mono HB2.out.size)
        exact ⟨by rw [← H1.out]; rfl, IsS96.below HI1.out hB2, HB1.out.trans (hB2.mono HB1.out.size), HK1.out.trans (KeepBut.of_below hB2 g none) (.inl rfl)⟩
  | false =>
    rw [if_neg (by decide)] at hf
    have HF := Lib.hid hf
    clear hf
    go_enter Try.func62, Try.ntmps62
    go_wp2_with (first | (go_at_call 84; refine (octets_wide.calls a1 false _ HW.out).mono ?_; rintro e w' ⟨rfl, ⟨nd, rfl⟩⟩) | (go_at_call 65; refine (octets_Cursor_fail.calls g s0_0 s0_1 s0_2 1 p0 p1 p2 w0 _ (IsS96.drewN HI.out nd) (pw_below_drewN HB.out nd) HF.out).mono ?_; rintro e wf ⟨rfl, hi, hb, hk⟩; have HIf := Lib.hid hi; have HBf := Lib.hid hb; have HKf := Lib.hid (KeepBut.trans (keep_drewN (KeepBut.refl w g none) nd) hk (.inl rfl)); clear hi hb hk) | (go_at_call 41; refine (octets_Cursor_Bytes.calls g p0 p1 p2 a1 b1 b2 b3 b4 w0 _ HIf.out HBf.out HH.out).mono ?_; rintro e w1 ⟨rfl, hi, hb, hk⟩; have HI1 := Lib.hid hi; have HB1 := Lib.hid hb; have HK1 := Lib.hid (HKf.out.trans hk (.inl rfl)); clear hi hb hk) | (go_at_call 63; obtain ⟨ht1, ht2⟩ := (HT w1 hr).out; clear HT; refine ht2.mono ?_; clear ht2; rintro e w2 ⟨rfl, hb⟩; have HB2 := Lib.hid hb; clear hb; have hcv := fun wx => Go.Lib.run_convert_string_bytes (P := Try.prog) wx 9 63 5 (octets_turnT b1) Try.underlying9 Try.underlying63 Try.underlying5))
    have hl : (bytesOf (octets_turnT b1)).length = (octets_turnT b1).size := bytesOf_length _
    have HL := Lib.hid hl
    have HC : ∀ k, k < (octets_turnT b1).size → Hid ((Lib.bytesWorld w2 5 (octets_turnT b1)).cell? ⟨w2.heap.size, k, none⟩ = some (.int .u8 ((bytesOf (octets_turnT b1)).getD k 0)) ∧ 0 ≤ (bytesOf (octets_turnT b1)).getD k 0 ∧ (bytesOf (octets_turnT b1)).getD k 0 ≤ 255) := by
      intro k hk
      refine Lib.hid ⟨?_, ?_, ?_⟩
      · rw [Lib.bytesWorld_cell w2 5 (octets_turnT b1) k hk]
        simp [bytesOf, List.getD, List.getElem?_eq_getElem, hk]
      · simp [bytesOf, List.getD, List.getElem?_eq_getElem, hk]
      · have : ((octets_turnT b1).data.toList.getD k 0).toNat < 256 := UInt8.toNat_lt _
        simp [bytesOf, List.getD, List.getElem?_eq_getElem, hk] at this ⊢
        omega
    clear hl hcv
    generalize octets_turnT b1 = V at *
    go_loop [7, 22] (fun n i => ∃ k : Nat, k ≤ V.size ∧ i = .int .i64 k ∧ n = .int .i64 (octets_leK (bytesOf V) k)) (fun _ i => V.size - (RowKit.intOf i).toNat)
    case atStart => exact ⟨0, Nat.zero_le _, rfl, rfl⟩
    case round =>
      obtain ⟨k, hk, rfl, rfl⟩ := hrel
      by_cases hlt : k < V.size
      · obtain ⟨hc, hb0, hb1⟩ := (HC k hlt).out
        clear HC
        have h4 : k ≤ 3 := by omega
        have hn : octets_leK (bytesOf V) (k + 1) = Go.bits .or .i64 (octets_leK (bytesOf V) k) (wrap64 ((bytesOf V).getD k 0 * 2 ^ (8 * k))) := rfl
        generalize (bytesOf V).getD k 0 = b at *
        have HN := Lib.hid hn
        clear hn
        go_wp2
        go_round
        case rel => exact ⟨k + 1, by omega, by go_num, by rw [HN.out]⟩
        case measure => simp [RowKit.intOf]; omega
      · obtain rfl : k = V.size := by omega
        clear HC
        go_wp2
        go_ret
        have hB2 : Below w1.heap.size w1 (Lib.bytesWorld w2 5 V) := HB2.out.trans ((bytesWorld_below w2 5 V).mono HB2.out.size)
        exact ⟨by rw [← H1.out]; rfl, IsS96.below HI1.out hB2, HB1.out.trans (hB2.mono HB1.out.size), HK1.out.trans (KeepBut.of_below hB2 g none) (.inl rfl)⟩
end

def octets_Cursor_Int.f (s0_0 : ByteArray) (s0_1 : Int) (s0_2 : Int) (a1 : Int) : Option (Int × ByteArray × Int × Int) := octets_numberT.f s0_0 s0_1 s0_2 a1
theorem octets_Cursor_Int.calls (g : Nat) (s0_0 : ByteArray) (s0_1 : Int) (s0_2 : Int) (a1 : Int) (r1 : Int) (r2 : ByteArray) (r3 : Int) (r4 : Int) (w0 w : World) (hI : IsS96 w0 w g s0_0 s0_1 s0_2) (hB : Below w0.heap.size w0 w) (h : octets_Cursor_Int.f s0_0 s0_1 s0_2 a1 = some (r1, r2, r3, r4)) :
    Calls Try.prog 39 #[.pointer (some ⟨g, 0, none⟩), .int .i64 a1] w fun e w' => e = .returned (.int .i64 r1) ∧ IsS96 w0 w' g r2 r3 r4 ∧ Below w0.heap.size w0 w' ∧ KeepBut w w' g none := by
  have HX := Lib.hid (octets_numberT.calls octets_turnT_ok g s0_0 s0_1 s0_2 a1 r1 r2 r3 r4 w0 w hI hB h)
  clear hI hB h
  go_enter Try.func39, Try.ntmps39
  go_wp2_with (go_at_call 62; refine HX.out.mono ?_; rintro e w' ⟨rfl, hi, hb, hk⟩; have HP := Lib.hid (And.intro hi (And.intro hb hk)); clear hi hb hk)
  go_ret
  exact ⟨rfl, HP.out⟩

end Go.Proofs.Ytkmfhfejogjnfaa.X
