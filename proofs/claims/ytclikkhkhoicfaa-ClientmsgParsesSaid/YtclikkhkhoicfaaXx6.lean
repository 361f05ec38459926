/- What each Go function that these laws use answers: as a Lean function, with the proof that the machine's call comes to it. Written by a program of this session (xprint.py). -/
import Derived.Test.YtclikkhkhoicfaaXx0
import Derived.Test.YtclikkhkhoicfaaXx3
import Derived.Test.YtclikkhkhoicfaaXx4
namespace Go.Proofs.Ytclikkhkhoicfaa.X
open Go.RowKit Go.Proofs.YtclikkhkhoicfaaW.PrintWords Go.Proofs.YtclikkhkhoicfaaW.PrintLast Go.Proofs.YtclikkhkhoicfaaW.PrintMore
attribute [local go_sem] max2_int min2_int max_two min_two max_three min_three max_four min_four   -- for this text's walks alone
set_option linter.unusedVariables false
set_option linter.unusedSimpArgs false

/-! ### octets_turned: function 33 -/
section
open Go.Sort Go.Lib
set_option maxHeartbeats 1600000 in
set_option maxRecDepth 100000 in
theorem octets_reverse (blk off cap : Nat) (d : Array Int) (w : World) (hH : Go.Sort.Holds (Value.int .u8) w blk off d) (hsz : d.size ≤ 9223372036854775807) :
    Calls Try.prog 56 #[.slice (some ⟨blk, off, none⟩) d.size cap] w fun e w' => e = .returned (.tuple #[]) ∧ ∃ n, w' = Go.Sort.putRow (Value.int .u8) (Go.Sort.ahead w n) blk off d.reverse := by
  go_enter Try.func56, Try.ntmps56
  go_wp2
  go_loopg [2, 3] d.size (fun k s2 s3 wr => ∃ (i jn : Nat) (jz : Int) (dk : Array Int) (n : Nat), s2 = .int .i64 i ∧ s3 = .int .i64 jz ∧ ((i : Int) < jz → jz = jn ∧ jn < d.size) ∧ (¬ (i : Int) < jz → ¬ i < jn) ∧ jn - i ≤ k ∧
    dk.size = d.size ∧ wr = Go.Sort.putRow (Value.int .u8) (Go.Sort.ahead w n) blk off dk ∧ reverseLoop i jn dk = reverseLoop 0 (d.size - 1) d)
  case atStart => exact ⟨0, d.size - 1, (d.size : Int) - 1, d, 0, rfl, rfl, fun h => ⟨by omega, by omega⟩, fun h => by omega, by omega, rfl, (putRow_self _ w blk off d hH).symm, rfl⟩
  case round =>
    obtain ⟨i, jn, jz, dk, n, rfl, rfl, h1, h2, hk, hds, hwr, heq⟩ := hrel
    by_cases hlt : (i : Int) < jz
    · obtain ⟨rfl, hjn⟩ := h1 hlt
      have hij : i < jn := by omega
      have hHk : Go.Sort.Holds (Value.int .u8) wr blk off dk := by rw [hwr]; exact holds_putRow _ _ blk off d dk (holds_ahead _ w n blk off d hH) hds
      obtain ⟨ci, fi⟩ := hHk i (by omega)
      obtain ⟨cj, fj⟩ := hHk jn (by omega)
      have A : Aside (wr = Go.Sort.putRow (Value.int .u8) (Go.Sort.ahead w n) blk off dk) := hwr
      clear hwr hHk hH h1 h2
      go_wp2_with fail
      go_region
      all_goals
        go_wp2
        go_roundg (jn - 1 - (i + 1))
        case measure => omega
        case rel =>
          rw [reverseLoop, if_pos hij] at heq
          exact ⟨i + 1, jn - 1, (jn : Int) - 1, swp dk i jn, n + 1, by simp, rfl, fun h => ⟨by omega, by omega⟩, fun h => by omega, Nat.le_refl _, by rw [size_swp]; exact hds,
            swap_world _ (by omega) (by omega) A.out (by first | rfl | simp [getElem!_pos, show jn < dk.size by omega]) (by first | rfl | simp [getElem!_pos, show i < dk.size by omega]), heq⟩
    · have hnot := h2 hlt
      go_wp2
      go_end0
      refine ⟨rfl, n, ?_⟩
      rw [reverseLoop, if_neg hnot] at heq
      rw [← Lib.reverseLoop_reverse, ← heq]

theorem bytesWorld_holds (w : World) (e : TypeId) (s : ByteArray) : Go.Sort.Holds (Value.int .u8) (Lib.bytesWorld w e s) w.heap.size 0 (bytesOf s).toArray := by
  intro j hj
  have hj' : j < s.size := by simpa [bytesOf_length] using hj
  refine ⟨?_, ?_⟩
  · rw [Nat.zero_add, Lib.bytesWorld_cell w e s j hj']
    simp [bytesOf, List.getD, List.getElem?_eq_getElem, hj']
  · have := Lib.bytesWorld_at_new w e s
    have hs : s.size ≤ (Lib.bytesCells w e s).size := by simp [Lib.bytesCells]
    simp [World.frozen?, this]
    omega
theorem bytesWorld_below (w : World) (e : TypeId) (s : ByteArray) : Below w.heap.size w (Lib.bytesWorld w e s) :=
  ⟨rfl, rfl, rfl, by rw [Lib.bytesWorld_size]; omega, fun k hk => Lib.bytesWorld_at_old w e s k hk⟩
def octets_turned.f (a0 : ByteArray) : Option ByteArray := if a0.size ≤ 140737488351232 then some (strOfNums (bytesOf a0).reverse) else none
set_option maxHeartbeats 1600000 in
set_option maxRecDepth 100000 in
theorem octets_turned.calls (a0 : ByteArray) (r : ByteArray) (w : World) (h : octets_turned.f a0 = some r) :
    Calls Try.prog 33 #[.string a0] w fun e w' => e = .returned (.string r) ∧ Below w.heap.size w w' := by
  unfold octets_turned.f at h
  split at h
  case isFalse => exact absurd h (by simp)
  case isTrue hs =>
  obtain rfl := Option.some.inj h
  have hcv := fun wx => Go.Lib.run_convert_string_bytes (P := Try.prog) wx 9 63 5 a0 Try.underlying9 Try.underlying63 Try.underlying5
  have hl : (bytesOf a0).length = a0.size := bytesOf_length a0
  have HR := Lib.hid (octets_reverse w.heap.size 0 (grownCap w a0.size 0 5) (bytesOf a0).toArray (Lib.bytesWorld w 5 a0) (bytesWorld_holds w 5 a0) (by simp [hl]; omega))
  have HL := Lib.hid hl
  have HC : ∀ n wx, wx = Go.Sort.putRow (Value.int .u8) (Go.Sort.ahead (Lib.bytesWorld w 5 a0) n) w.heap.size 0 (bytesOf a0).toArray.reverse → Hid ((convert 63 9 (.slice (some ⟨w.heap.size, 0, none⟩) a0.size (grownCap w a0.size 0 5))).run Try.prog wx = .ok (.string (strOfNums (bytesOf a0).reverse)) wx) := by
    rintro n wx rfl
    refine Lib.hid (run_convert_bytes_arg _ 63 5 Try.underlying63 Try.underlying5 w.heap.size 0 a0.size _ (bytesOf a0).reverse (by rw [List.length_reverse]; exact HL.out) (fun i hi => ?_) 9 Try.underlying9)
    have := (holds_putRow (Value.int .u8) (Go.Sort.ahead (Lib.bytesWorld w 5 a0) n) w.heap.size 0 (bytesOf a0).toArray (bytesOf a0).toArray.reverse (bytesWorld_holds w 5 a0) (by simp) i (by simp [HL.out]; exact hi)).1
    rw [this]
    simp [List.getD, getElem!_def]
    split <;> simp_all
  clear hl h
  go_enter Try.func33, Try.ntmps33
  go_wp2_with (first | (go_at_call 56; have hr := HR.out; simp only [List.size_toArray, HL.out] at hr; refine hr.mono ?_; clear hr; rintro e w' ⟨rfl, n, hw'⟩; have hc2 := (HC n w' hw').out; have HW := Lib.hid hw'; clear hw'))
  go_ret
  exact ⟨rfl, by rw [HW.out]; exact Lib.below_putRow (bytesWorld_below w 5 a0) (Nat.le_refl _)⟩
end

/-! ### octets_Cursor_Int: function 16 -/
def octets_leK (l : List Int) : Nat → Int
  | 0 => 0
  | k + 1 => Go.bits .or .i64 (octets_leK l k) (wrap64 (l.getD k 0 * 2 ^ (8 * k)))
def octets_turnT (s : ByteArray) : ByteArray := strOfNums (bytesOf s).reverse
theorem octets_turnT_ok (s : ByteArray) (w : World) (hs : s.size ≤ 4) : Hid ((octets_turnT s).size ≤ 4 ∧ Calls Try.prog 33 #[.string s] w fun e w' => e = .returned (.string (octets_turnT s)) ∧ Below w.heap.size w w') :=
  Lib.hid ⟨by unfold octets_turnT; rw [strOfNums_size, List.length_reverse, bytesOf_length]; exact hs, octets_turned.calls s _ w (by unfold octets_turned.f; rw [if_pos (by omega)]; rfl)⟩
/-- What a number of bytes is, the least byte first, as the loop reckons it. -/
def octets_numberT.f (s0_0 : ByteArray) (s0_1 s0_2 : Int) (a1 : Int) : Option (Int × ByteArray × Int × Int) :=
  (octets_wide.f a1).bind fun wd => (if wd = true then some (s0_0, s0_1, s0_2) else octets_Cursor_fail.f s0_0 s0_1 s0_2 1).bind fun st =>
  (octets_Cursor_Bytes.f st.1 st.2.1 st.2.2 a1).bind fun r => if r.1.size ≤ 4 then some (octets_leK (bytesOf (octets_turnT r.1)) (octets_turnT r.1).size, r.2.1, r.2.2.1, r.2.2.2) else none
section
open Go.Sort Go.Lib
set_option maxHeartbeats 1600000 in
set_option maxRecDepth 100000 in
theorem octets_numberT.calls (hT : ∀ (s : ByteArray) (w : World), s.size ≤ 4 → Hid ((octets_turnT s).size ≤ 4 ∧ Calls Try.prog 33 #[.string s] w fun e w' => e = .returned (.string (octets_turnT s)) ∧ Below w.heap.size w w'))
    (g : Nat) (s0_0 : ByteArray) (s0_1 s0_2 a1 : Int) (r1 : Int) (r2 : ByteArray) (r3 r4 : Int) (w0 w : World) (hI : IsS79 w0 w g s0_0 s0_1 s0_2) (hB : Below w0.heap.size w0 w)
    (h : octets_numberT.f s0_0 s0_1 s0_2 a1 = some (r1, r2, r3, r4)) :
    Calls Try.prog 32 #[.pointer (some ⟨g, 0, none⟩), .int .i64 a1, .func (.func 33) #[] #[]] w fun e w' => e = .returned (.int .i64 r1) ∧ IsS79 w0 w' g r2 r3 r4 ∧ Below w0.heap.size w0 w' ∧ KeepBut w w' g none := by
  have HI := Lib.hid hI
  have HB := Lib.hid hB
  clear hI hB
  unfold octets_numberT.f at h
  obtain ⟨wd, hw, h⟩ := Option.bind_eq_some_iff.mp h
  obtain ⟨⟨p0, p1, p2⟩, hf, h⟩ := Option.bind_eq_some_iff.mp h
  obtain ⟨⟨b1, b2, b3, b4⟩, hb, h⟩ := Option.bind_eq_some_iff.mp h
  dsimp only at hb h
  split at h
  case isFalse => exact absurd h (by simp)
  case isTrue hr =>
  simp only [Option.some.injEq, Prod.mk.injEq] at h
  obtain ⟨h1, rfl, rfl, rfl⟩ := h
  have HW := Lib.hid hw
  have HH := Lib.hid hb
  have H1 := Lib.hid h1
  clear hw hb h1
  have HT := hT b1
  clear hT
  cases wd with
  | true =>
    rw [if_pos rfl] at hf
    simp only [Option.some.injEq, Prod.mk.injEq] at hf
    obtain ⟨rfl, rfl, rfl⟩ := hf
    go_enter Try.func32, Try.ntmps32
    go_wp2_with (first | (go_at_call 53; refine (octets_wide.calls a1 true _ HW.out).mono ?_; rintro e w' ⟨rfl, ⟨nd, rfl⟩⟩) | (go_at_call 55; refine (octets_Cursor_Bytes.calls g s0_0 s0_1 s0_2 a1 b1 b2 b3 b4 w0 _ (IsS79.drewN HI.out nd) (pw_below_drewN HB.out nd) HH.out).mono ?_; rintro e w1 ⟨rfl, hi, hb, hk⟩; have HI1 := Lib.hid hi; have HB1 := Lib.hid hb; have HK1 := Lib.hid (KeepBut.trans (keep_drewN (KeepBut.refl w g none) nd) hk (.inl rfl)); clear hi hb hk) | (go_at_call 33; obtain ⟨ht1, ht2⟩ := (HT w1 hr).out; clear HT; refine ht2.mono ?_; clear ht2; rintro e w2 ⟨rfl, hb⟩; have HB2 := Lib.hid hb; clear hb; have hcv := fun wx => Go.Lib.run_convert_string_bytes (P := Try.prog) wx 9 63 5 (octets_turnT b1) Try.underlying9 Try.underlying63 Try.underlying5))
    have hl : (bytesOf (octets_turnT b1)).length = (octets_turnT b1).size := bytesOf_length _
    have HL := Lib.hid hl
    have HC : ∀ k, k < (octets_turnT b1).size → Hid ((Lib.bytesWorld w2 5 (octets_turnT b1)).cell? ⟨w2.heap.size, k, none⟩ = some (.int .u8 ((bytesOf (octets_turnT b1)).getD k 0)) ∧ 0 ≤ (bytesOf (octets_turnT b1)).getD k 0 ∧ (bytesOf (octets_turnT b1)).getD k 0 ≤ 255) := by
      intro k hk
      refine Lib.hid ⟨?_, ?_, ?_⟩
      · rw [Lib.bytesWorld_cell w2 5 (octets_turnT b1) k hk]
        simp [bytesOf, List.getD, List.getElem?_eq_getElem, hk]
      · simp [bytesOf, List.getD, List.getElem?_eq_getElem, hk]
      · have : ((octets_turnT b1).data.toList.getD k 0).toNat < 256 := UInt8.toNat_lt _
        simp [bytesOf, List.getD, List.getElem?_eq_getElem, hk] at this ⊢
        omega
    clear hl hcv
    generalize octets_turnT b1 = V at *
    go_loop [7, 22] (fun n i => ∃ k : Nat, k ≤ V.size ∧ i = .int .i64 k ∧ n = .int .i64 (octets_leK (bytesOf V) k)) (fun _ i => V.size - (RowKit.intOf i).toNat)
    case atStart => exact ⟨0, Nat.zero_le _, rfl, rfl⟩
    case round =>
      obtain ⟨k, hk, rfl, rfl⟩ := hrel
      by_cases hlt : k < V.size
      · obtain ⟨hc, hb0, hb1⟩ := (HC k hlt).out
        clear HC
        have h4 : k ≤ 3 := by omega
        have hn : octets_leK (bytesOf V) (k + 1) = Go.bits .or .i64 (octets_leK (bytesOf V) k) (wrap64 ((bytesOf V).getD k 0 * 2 ^ (8 * k))) := rfl
        generalize (bytesOf V).getD k 0 = b at *
        have HN := Lib.hid hn
        clear hn
        go_wp2
        go_round
        case rel => exact ⟨k + 1, by omega, by go_num, by rw [HN.out]⟩
        case measure => simp [RowKit.intOf]; omega
      · obtain rfl : k = V.size := by omega
        clear HC
        go_wp2
        go_ret
        have hB2 : Below w1.heap.size w1 (Lib.bytesWorld w2 5 V) := HB2.out.trans ((bytesWorld_below w2 5 V).mono HB2.out.size)
        exact ⟨by rw [← H1.out]; rfl, IsS79.below HI1.out hB2, HB1.out.trans (hB2.mono HB1.out.size), HK1.out.trans (KeepBut.of_below hB2 g none) (.inl rfl)⟩
  | false =>
    rw [if_neg (by decide)] at hf
    have HF := Lib.hid hf
    clear hf
    go_enter Try.func32, Try.ntmps32
    go_wp2_with (first | (go_at_call 53; refine (octets_wide.calls a1 false _ HW.out).mono ?_; rintro e w' ⟨rfl, ⟨nd, rfl⟩⟩) | (go_at_call 54; refine (octets_Cursor_fail.calls g s0_0 s0_1 s0_2 1 p0 p1 p2 w0 _ (IsS79.drewN HI.out nd) (pw_below_drewN HB.out nd) HF.out).mono ?_; rintro e wf ⟨rfl, hi, hb, hk⟩; have HIf := Lib.hid hi; have HBf := Lib.hid hb; have HKf := Lib.hid (KeepBut.trans (keep_drewN (KeepBut.refl w g none) nd) hk (.inl rfl)); clear hi hb hk) | (go_at_call 55; refine (octets_Cursor_Bytes.calls g p0 p1 p2 a1 b1 b2 b3 b4 w0 _ HIf.out HBf.out HH.out).mono ?_; rintro e w1 ⟨rfl, hi, hb, hk⟩; have HI1 := Lib.hid hi; have HB1 := Lib.hid hb; have HK1 := Lib.hid (HKf.out.trans hk (.inl rfl)); clear hi hb hk) | (go_at_call 33; obtain ⟨ht1, ht2⟩ := (HT w1 hr).out; clear HT; refine ht2.mono ?_; clear ht2; rintro e w2 ⟨rfl, hb⟩; have HB2 := Lib.hid hb; clear hb; have hcv := fun wx => Go.Lib.run_convert_string_bytes (P := Try.prog) wx 9 63 5 (octets_turnT b1) Try.underlying9 Try.underlying63 Try.underlying5))
    have hl : (bytesOf (octets_turnT b1)).length = (octets_turnT b1).size := bytesOf_length _
    have HL := Lib.hid hl
    have HC : ∀ k, k < (octets_turnT b1).size → Hid ((Lib.bytesWorld w2 5 (octets_turnT b1)).cell? ⟨w2.heap.size, k, none⟩ = some (.int .u8 ((bytesOf (octets_turnT b1)).getD k 0)) ∧ 0 ≤ (bytesOf (octets_turnT b1)).getD k 0 ∧ (bytesOf (octets_turnT b1)).getD k 0 ≤ 255) := by
      intro k hk
      refine Lib.hid ⟨?_, ?_, ?_⟩
      · rw [Lib.bytesWorld_cell w2 5 (octets_turnT b1) k hk]
        simp [bytesOf, List.getD, List.getElem?_eq_getElem, hk]
      · simp [bytesOf, List.getD, List.getElem?_eq_getElem, hk]
      · have : ((octets_turnT b1).data.toList.getD k 0).toNat < 256 := UInt8.toNat_lt _
        simp [bytesOf, List.getD, List.getElem?_eq_getElem, hk] at this ⊢
        omega
    clear hl hcv
    generalize octets_turnT b1 = V at *
    go_loop [7, 22] (fun n i => ∃ k : Nat, k ≤ V.size ∧ i = .int .i64 k ∧ n = .int .i64 (octets_leK (bytesOf V) k)) (fun _ i => V.size - (RowKit.intOf i).toNat)
    case atStart => exact ⟨0, Nat.zero_le _, rfl, rfl⟩
    case round =>
      obtain ⟨k, hk, rfl, rfl⟩ := hrel
      by_cases hlt : k < V.size
      · obtain ⟨hc, hb0, hb1⟩ := (HC k hlt).out
        clear HC
        have h4 : k ≤ 3 := by omega
        have hn : octets_leK (bytesOf V) (k + 1) = Go.bits .or .i64 (octets_leK (bytesOf V) k) (wrap64 ((bytesOf V).getD k 0 * 2 ^ (8 * k))) := rfl
        generalize (bytesOf V).getD k 0 = b at *
        have HN := Lib.hid hn
        clear hn
        go_wp2
        go_round
        case rel => exact ⟨k + 1, by omega, by go_num, by rw [HN.out]⟩
        case measure => simp [RowKit.intOf]; omega
      · obtain rfl : k = V.size := by omega
        clear HC
        go_wp2
        go_ret
        have hB2 : Below w1.heap.size w1 (Lib.bytesWorld w2 5 V) := HB2.out.trans ((bytesWorld_below w2 5 V).mono HB2.out.size)
        exact ⟨by rw [← H1.out]; rfl, IsS79.below HI1.out hB2, HB1.out.trans (hB2.mono HB1.out.size), HK1.out.trans (KeepBut.of_below hB2 g none) (.inl rfl)⟩
end

def octets_Cursor_Int.f (s0_0 : ByteArray) (s0_1 : Int) (s0_2 : Int) (a1 : Int) : Option (Int × ByteArray × Int × Int) := octets_numberT.f s0_0 s0_1 s0_2 a1
theorem octets_Cursor_Int.calls (g : Nat) (s0_0 : ByteArray) (s0_1 : Int) (s0_2 : Int) (a1 : Int) (r1 : Int) (r2 : ByteArray) (r3 : Int) (r4 : Int) (w0 w : World) (hI : IsS79 w0 w g s0_0 s0_1 s0_2) (hB : Below w0.heap.size w0 w) (h : octets_Cursor_Int.f s0_0 s0_1 s0_2 a1 = some (r1, r2, r3, r4)) :
    Calls Try.prog 16 #[.pointer (some ⟨g, 0, none⟩), .int .i64 a1] w fun e w' => e = .returned (.int .i64 r1) ∧ IsS79 w0 w' g r2 r3 r4 ∧ Below w0.heap.size w0 w' ∧ KeepBut w w' g none := by
  have HX := Lib.hid (octets_numberT.calls octets_turnT_ok g s0_0 s0_1 s0_2 a1 r1 r2 r3 r4 w0 w hI hB h)
  clear hI hB h
  go_enter Try.func16, Try.ntmps16
  go_wp2_with (go_at_call 32; refine HX.out.mono ?_; rintro e w' ⟨rfl, hi, hb, hk⟩; have HP := Lib.hid (And.intro hi (And.intro hb hk)); clear hi hb hk)
  go_ret
  exact ⟨rfl, HP.out⟩

/-! ### octets_Cursor_Err: function 17 -/
def octets_Cursor_Err.f (s0_0 : ByteArray) (s0_1 : Int) (s0_2 : Int) : Option (Int × ByteArray × Int × Int) := some (s0_2, s0_0, s0_1, s0_2)
set_option maxHeartbeats 8000000 in
set_option maxRecDepth 100000 in
theorem octets_Cursor_Err.calls (g : Nat) (s0_0 : ByteArray) (s0_1 : Int) (s0_2 : Int) (r1 : Int) (r2 : ByteArray) (r3 : Int) (r4 : Int) (w0 w : World) (hI : IsS79 w0 w g s0_0 s0_1 s0_2) (hB : Below w0.heap.size w0 w) (h : octets_Cursor_Err.f s0_0 s0_1 s0_2 = some (r1, r2, r3, r4)) :
    Calls Try.prog 17 #[.pointer (some ⟨g, 0, none⟩)] w fun e w' => e = .returned (.int .i64 r1) ∧ IsS79 w0 w' g r2 r3 r4 ∧ Below w0.heap.size w0 w' ∧ KeepBut w w' g none := by
  have HI0 := Aside0.mk hI
  have HK := Aside0.mk (KeepBut.refl w g none)
  have HL := Aside0.mk hB.size
  clear hI
  have HW0 := Aside0.mk hB.size
  have HB := Aside0.mk hB
  clear hB
  have H : (some (s0_2, s0_0, s0_1, s0_2)) = some (r1, r2, r3, r4) := h
  clear h
  simp only [Option.some.injEq, Prod.mk.injEq] at H
  obtain ⟨rfl, rfl, rfl, rfl⟩ := H
  obtain ⟨HGz2, hgz2⟩ := HI0.out
  have hcz2_0 := cellS79_0 HGz2
  have hcz2_1 := cellS79_1 HGz2
  have hcz2_2 := cellS79_2 HGz2
  have hfz2_0 := blk_frozen HGz2 0
  have hfz2_1 := blk_frozen HGz2 1
  have hfz2_2 := blk_frozen HGz2 2
  clear HGz2 hgz2
  go_enter Try.func17, Try.ntmps17
  go_wp2
  go_ret
  exact ⟨by first | rfl | (simp [errW_none, errW_some] <;> rfl) | (simp [*, errW_none, errW_some] <;> rfl), by repeat (first | (with_reducible first | exact HI0.out | apply IsS79.alloc | apply IsS79.drewN | apply IsS79.drew | apply IsS79.set_0 | apply IsS79.set_1 | apply IsS79.set_2) | exact HI0.out), by repeat (first | (with_reducible first | exact HB.out | apply below_alloc | apply pw_below_drewN | apply below_drew1 | refine below_set ?_ (IsS79.ge HI0.out)) | exact HB.out), by repeat (first | (with_reducible first | exact HK.out | apply KeepBut.set_ | apply keep_drewN | apply keep_drew | apply keep_alloc) | exact HK.out)⟩

end Go.Proofs.Ytclikkhkhoicfaa.X
