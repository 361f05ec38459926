/- What each Go function that these laws use answers: as a Lean function, with the proof that the machine's call comes to it. Written by a program of this session (xprint.py). -/
import Derived.Test.YtpackckoblpbfaaXx0
import Derived.Test.YtpackckoblpbfaaXx5
import Derived.Test.YtpackckoblpbfaaXx14
import Derived.Test.YtpackckoblpbfaaXx15
namespace Go.Proofs.Ytpackckoblpbfaa.X
open Go.RowKit Go.Proofs.YtpackckoblpbfaaW.PrintWords Go.Proofs.YtpackckoblpbfaaW.PrintLast Go.Proofs.YtpackckoblpbfaaW.PrintMore
attribute [local go_sem] max2_int min2_int max_two min_two max_three min_three max_four min_four   -- for this text's walks alone
set_option linter.unusedVariables false
set_option linter.unusedSimpArgs false

/-! ### octets_Cursor_Int: function 51 -/
def octets_leK (l : List Int) : Nat → Int
 | 0 => 0
 | k + 1 => Go.bits .or .i64 (octets_leK l k) (wrap64 (l.getD k 0 * 2 ^ (8 * k)))
def octets_turnT (s : ByteArray) : ByteArray := strOfNums (bytesOf s).reverse
theorem octets_turnT_ok (s : ByteArray) (w : World) (hs : s.size ≤ 4) : Hid ((octets_turnT s).size ≤ 4 ∧ Calls Try.prog 84 #[.string s] w fun e w' => e = .returned (.string (octets_turnT s)) ∧ Below w.heap.size w w') :=
 Lib.hid ⟨by unfold octets_turnT; rw [strOfNums_size, List.length_reverse, bytesOf_length]; exact hs, octets_turned.calls s _ w (by unfold octets_turned.f; rw [if_pos (by omega)]; rfl)⟩
/-- What a number of bytes is, the least byte first, as the loop reckons it. -/
def octets_numberT.f (s0_0 : ByteArray) (s0_1 s0_2 : Int) (a1 : Int) : Option (Int × ByteArray × Int × Int) :=
 (octets_wide.f a1).bind fun wd => (if wd = true then some (s0_0, s0_1, s0_2) else octets_Cursor_fail.f s0_0 s0_1 s0_2 1).bind fun st =>
 (octets_Cursor_Bytes.f st.1 st.2.1 st.2.2 a1).bind fun r => if r.1.size ≤ 4 then some (octets_leK (bytesOf (octets_turnT r.1)) (octets_turnT r.1).size, r.2.1, r.2.2.1, r.2.2.2) else none
section
open Go.Sort Go.Lib
set_option maxHeartbeats 1600000 in
set_option maxRecDepth 100000 in
theorem octets_numberT.calls (hT : ∀ (s : ByteArray) (w : World), s.size ≤ 4 → Hid ((octets_turnT s).size ≤ 4 ∧ Calls Try.prog 84 #[.string s] w fun e w' => e = .returned (.string (octets_turnT s)) ∧ Below w.heap.size w w'))
  (g : Nat) (s0_0 : ByteArray) (s0_1 s0_2 a1 : Int) (r1 : Int) (r2 : ByteArray) (r3 r4 : Int) (w0 w : World) (hI : IsS142 w0 w g s0_0 s0_1 s0_2) (hB : Below w0.heap.size w0 w)
  (h : octets_numberT.f s0_0 s0_1 s0_2 a1 = some (r1, r2, r3, r4)) :
  Calls Try.prog 83 #[.pointer (some ⟨g, 0, none⟩), .int .i64 a1, .func (.func 84) #[] #[]] w fun e w' => e = .returned (.int .i64 r1) ∧ IsS142 w0 w' g r2 r3 r4 ∧ Below w0.heap.size w0 w' ∧ KeepBut w w' g none := by
 have HI := Lib.hid hI
 have HB := Lib.hid hB
 clear hI hB
 unfold octets_numberT.f at h
 obtain ⟨wd, hw, h⟩ := Option.bind_eq_some_iff.mp h
 obtain ⟨⟨p0, p1, p2⟩, hf, h⟩ := Option.bind_eq_some_iff.mp h
 obtain ⟨⟨b1, b2, b3, b4⟩, hb, h⟩ := Option.bind_eq_some_iff.mp h
 dsimp only at hb h
 split at h
 case isFalse => exact absurd h (by simp)
 case isTrue hr =>
 simp only [Option.some.injEq, Prod.mk.injEq] at h
 obtain ⟨h1, rfl, rfl, rfl⟩ := h
 have HW := Lib.hid hw
 have HH := Lib.hid hb
 have H1 := Lib.hid h1
 clear hw hb h1
 have HT := hT b1
 clear hT
 cases wd with
 | true =>
  rw [if_pos rfl] at hf
  simp only [Option.some.injEq, Prod.mk.injEq] at hf
  obtain ⟨rfl, rfl, rfl⟩ := hf
  go_enter Try.func83, Try.ntmps83
  go_wp2_with (first | (go_at_call 95; refine (octets_wide.calls a1 true _ HW.out).mono ?_; rintro e w' ⟨rfl, ⟨nd, rfl⟩⟩) | (go_at_call 52; refine (octets_Cursor_Bytes.calls g s0_0 s0_1 s0_2 a1 b1 b2 b3 b4 w0 _ (IsS142.drewN HI.out nd) (pw_below_drewN HB.out nd) HH.out).mono ?_; rintro e w1 ⟨rfl, hi, hb, hk⟩; have HI1 := Lib.hid hi; have HB1 := Lib.hid hb; have HK1 := Lib.hid (KeepBut.trans (keep_drewN (KeepBut.refl w g none) nd) hk (.inl rfl)); clear hi hb hk) | (go_at_call 84; obtain ⟨ht1, ht2⟩ := (HT w1 hr).out; clear HT; refine ht2.mono ?_; clear ht2; rintro e w2 ⟨rfl, hb⟩; have HB2 := Lib.hid hb; clear hb; have hcv := fun wx => Go.Lib.run_convert_string_bytes (P := Try.prog) wx 9 72 5 (octets_turnT b1) Try.underlying9 Try.underlying72 Try.underlying5))
  have hl : (bytesOf (octets_turnT b1)).length = (octets_turnT b1).size := bytesOf_length _
  have HL := Lib.hid hl
  have HC : ∀ k, k < (octets_turnT b1).size → Hid ((Lib.bytesWorld w2 5 (octets_turnT b1)).cell? ⟨w2.heap.size, k, none⟩ = some (.int .u8 ((bytesOf (octets_turnT b1)).getD k 0)) ∧ 0 ≤ (bytesOf (octets_turnT b1)).getD k 0 ∧ (bytesOf (octets_turnT b1)).getD k 0 ≤ 255) := by
   intro k hk
   refine Lib.hid ⟨?_, ?_, ?_⟩
   ·rw [Lib.bytesWorld_cell w2 5 (octets_turnT b1) k hk]
    simp [bytesOf, List.getD, List.getElem?_eq_getElem, hk]
   ·simp [bytesOf, List.getD, List.getElem?_eq_getElem, hk]
   ·have : ((octets_turnT b1).data.toList.getD k 0).toNat < 256 := UInt8.toNat_lt _
    simp [bytesOf, List.getD, List.getElem?_eq_getElem, hk] at this ⊢
    omega
  clear hl hcv
  generalize octets_turnT b1 = V at *
  go_loop [7, 22] (fun n i => ∃ k : Nat, k ≤ V.size ∧ i = .int .i64 k ∧ n = .int .i64 (octets_leK (bytesOf V) k)) (fun _ i => V.size - (RowKit.intOf i).toNat)
  case atStart => exact ⟨0, Nat.zero_le _, rfl, rfl⟩
  case round =>
   obtain ⟨k, hk, rfl, rfl⟩ := hrel
   by_cases hlt : k < V.size
   ·obtain ⟨hc, hb0, hb1⟩ := (HC k hlt).out
    clear HC
    have h4 : k ≤ 3 := by omega
    have hn : octets_leK (bytesOf V) (k + 1) = Go.bits .or .i64 (octets_leK (bytesOf V) k) (wrap64 ((bytesOf V).getD k 0 * 2 ^ (8 * k))) := rfl
    generalize (bytesOf V).getD k 0 = b at *
    have HN := Lib.hid hn
    clear hn
    go_wp2
    go_round
    case rel => exact ⟨k + 1, by omega, by go_num, by rw [HN.out]⟩
    case measure => simp [RowKit.intOf]; omega
   ·obtain rfl : k = V.size := by omega
    clear HC
    go_wp2
    go_ret
    have hB2 : Below w1.heap.size w1 (Lib.bytesWorld w2 5 V) := HB2.out.trans ((bytesWorld_below w2 5 V).mono HB2.out.size)
    exact ⟨by rw [← H1.out]; rfl, IsS142.below HI1.out hB2, HB1.out.trans (hB2.mono HB1.out.size), HK1.out.trans (KeepBut.of_below hB2 g none) (.inl rfl)⟩
 | false =>
  rw [if_neg (by decide)] at hf
  have HF := Lib.hid hf
  clear hf
  go_enter Try.func83, Try.ntmps83
  go_wp2_with (first | (go_at_call 95; refine (octets_wide.calls a1 false _ HW.out).mono ?_; rintro e w' ⟨rfl, ⟨nd, rfl⟩⟩) | (go_at_call 85; refine (octets_Cursor_fail.calls g s0_0 s0_1 s0_2 1 p0 p1 p2 w0 _ (IsS142.drewN HI.out nd) (pw_below_drewN HB.out nd) HF.out).mono ?_; rintro e wf ⟨rfl, hi, hb, hk⟩; have HIf := Lib.hid hi; have HBf := Lib.hid hb; have HKf := Lib.hid (KeepBut.trans (keep_drewN (KeepBut.refl w g none) nd) hk (.inl rfl)); clear hi hb hk) | (go_at_call 52; refine (octets_Cursor_Bytes.calls g p0 p1 p2 a1 b1 b2 b3 b4 w0 _ HIf.out HBf.out HH.out).mono ?_; rintro e w1 ⟨rfl, hi, hb, hk⟩; have HI1 := Lib.hid hi; have HB1 := Lib.hid hb; have HK1 := Lib.hid (HKf.out.trans hk (.inl rfl)); clear hi hb hk) | (go_at_call 84; obtain ⟨ht1, ht2⟩ := (HT w1 hr).out; clear HT; refine ht2.mono ?_; clear ht2; rintro e w2 ⟨rfl, hb⟩; have HB2 := Lib.hid hb; clear hb; have hcv := fun wx => Go.Lib.run_convert_string_bytes (P := Try.prog) wx 9 72 5 (octets_turnT b1) Try.underlying9 Try.underlying72 Try.underlying5))
  have hl : (bytesOf (octets_turnT b1)).length = (octets_turnT b1).size := bytesOf_length _
  have HL := Lib.hid hl
  have HC : ∀ k, k < (octets_turnT b1).size → Hid ((Lib.bytesWorld w2 5 (octets_turnT b1)).cell? ⟨w2.heap.size, k, none⟩ = some (.int .u8 ((bytesOf (octets_turnT b1)).getD k 0)) ∧ 0 ≤ (bytesOf (octets_turnT b1)).getD k 0 ∧ (bytesOf (octets_turnT b1)).getD k 0 ≤ 255) := by
   intro k hk
   refine Lib.hid ⟨?_, ?_, ?_⟩
   ·rw [Lib.bytesWorld_cell w2 5 (octets_turnT b1) k hk]
    simp [bytesOf, List.getD, List.getElem?_eq_getElem, hk]
   ·simp [bytesOf, List.getD, List.getElem?_eq_getElem, hk]
   ·have : ((octets_turnT b1).data.toList.getD k 0).toNat < 256 := UInt8.toNat_lt _
    simp [bytesOf, List.getD, List.getElem?_eq_getElem, hk] at this ⊢
    omega
  clear hl hcv
  generalize octets_turnT b1 = V at *
  go_loop [7, 22] (fun n i => ∃ k : Nat, k ≤ V.size ∧ i = .int .i64 k ∧ n = .int .i64 (octets_leK (bytesOf V) k)) (fun _ i => V.size - (RowKit.intOf i).toNat)
  case atStart => exact ⟨0, Nat.zero_le _, rfl, rfl⟩
  case round =>
   obtain ⟨k, hk, rfl, rfl⟩ := hrel
   by_cases hlt : k < V.size
   ·obtain ⟨hc, hb0, hb1⟩ := (HC k hlt).out
    clear HC
    have h4 : k ≤ 3 := by omega
    have hn : octets_leK (bytesOf V) (k + 1) = Go.bits .or .i64 (octets_leK (bytesOf V) k) (wrap64 ((bytesOf V).getD k 0 * 2 ^ (8 * k))) := rfl
    generalize (bytesOf V).getD k 0 = b at *
    have HN := Lib.hid hn
    clear hn
    go_wp2
    go_round
    case rel => exact ⟨k + 1, by omega, by go_num, by rw [HN.out]⟩
    case measure => simp [RowKit.intOf]; omega
   ·obtain rfl : k = V.size := by omega
    clear HC
    go_wp2
    go_ret
    have hB2 : Below w1.heap.size w1 (Lib.bytesWorld w2 5 V) := HB2.out.trans ((bytesWorld_below w2 5 V).mono HB2.out.size)
    exact ⟨by rw [← H1.out]; rfl, IsS142.below HI1.out hB2, HB1.out.trans (hB2.mono HB1.out.size), HK1.out.trans (KeepBut.of_below hB2 g none) (.inl rfl)⟩
end

def octets_Cursor_Int.f (s0_0 : ByteArray) (s0_1 : Int) (s0_2 : Int) (a1 : Int) : Option (Int × ByteArray × Int × Int) := octets_numberT.f s0_0 s0_1 s0_2 a1
theorem octets_Cursor_Int.calls (g : Nat) (s0_0 : ByteArray) (s0_1 : Int) (s0_2 : Int) (a1 : Int) (r1 : Int) (r2 : ByteArray) (r3 : Int) (r4 : Int) (w0 w : World) (hI : IsS142 w0 w g s0_0 s0_1 s0_2) (hB : Below w0.heap.size w0 w) (h : octets_Cursor_Int.f s0_0 s0_1 s0_2 a1 = some (r1, r2, r3, r4)) :
  Calls Try.prog 51 #[.pointer (some ⟨g, 0, none⟩), .int .i64 a1] w fun e w' => e = .returned (.int .i64 r1) ∧ IsS142 w0 w' g r2 r3 r4 ∧ Below w0.heap.size w0 w' ∧ KeepBut w w' g none := by
 have HX := Lib.hid (octets_numberT.calls octets_turnT_ok g s0_0 s0_1 s0_2 a1 r1 r2 r3 r4 w0 w hI hB h)
 clear hI hB h
 go_enter Try.func51, Try.ntmps51
 go_wp2_with (go_at_call 83; refine HX.out.mono ?_; rintro e w' ⟨rfl, hi, hb, hk⟩; have HP := Lib.hid (And.intro hi (And.intro hb hk)); clear hi hb hk)
 go_ret
 exact ⟨rfl, HP.out⟩

/-! ### octets_Cursor_Err: function 57 -/
def octets_Cursor_Err.f (s0_0 : ByteArray) (s0_1 : Int) (s0_2 : Int) : Option (Int × ByteArray × Int × Int) := some (s0_2, s0_0, s0_1, s0_2)
set_option maxHeartbeats 8000000 in
set_option maxRecDepth 100000 in
theorem octets_Cursor_Err.calls (g : Nat) (s0_0 : ByteArray) (s0_1 : Int) (s0_2 : Int) (r1 : Int) (r2 : ByteArray) (r3 : Int) (r4 : Int) (w0 w : World) (hI : IsS142 w0 w g s0_0 s0_1 s0_2) (hB : Below w0.heap.size w0 w) (h : octets_Cursor_Err.f s0_0 s0_1 s0_2 = some (r1, r2, r3, r4)) :
  Calls Try.prog 57 #[.pointer (some ⟨g, 0, none⟩)] w fun e w' => e = .returned (.int .i64 r1) ∧ IsS142 w0 w' g r2 r3 r4 ∧ Below w0.heap.size w0 w' ∧ KeepBut w w' g none := by
 have HI0 := Aside0.mk hI
 have HK := Aside0.mk (KeepBut.refl w g none)
 have HL := Aside0.mk hB.size
 clear hI
 have HW0 := Aside0.mk hB.size
 have HB := Aside0.mk hB
 clear hB
 have H : (some (s0_2, s0_0, s0_1, s0_2)) = some (r1, r2, r3, r4) := h
 clear h
 simp only [Option.some.injEq, Prod.mk.injEq] at H
 obtain ⟨rfl, rfl, rfl, rfl⟩ := H
 obtain ⟨HGz2, hgz2⟩ := HI0.out
 have hcz2_0 := cellS142_0 HGz2
 have hcz2_1 := cellS142_1 HGz2
 have hcz2_2 := cellS142_2 HGz2
 have hfz2_0 := blk_frozen HGz2 0
 have hfz2_1 := blk_frozen HGz2 1
 have hfz2_2 := blk_frozen HGz2 2
 clear HGz2 hgz2
 go_enter Try.func57, Try.ntmps57
 go_wp2
 go_ret
 exact ⟨by first | rfl | (simp [errW_none, errW_some] <;> rfl) | (simp [*, errW_none, errW_some] <;> rfl), by repeat (first | (with_reducible first | exact HI0.out | apply IsS142.alloc | apply IsS142.drewN | apply IsS142.drew | apply IsS142.set_0 | apply IsS142.set_1 | apply IsS142.set_2) | exact HI0.out), by repeat (first | (with_reducible first | exact HB.out | apply below_alloc | apply pw_below_drewN | apply below_drew1 | refine below_set ?_ (IsS142.ge HI0.out)) | exact HB.out), by repeat (first | (with_reducible first | exact HK.out | apply KeepBut.set_ | apply keep_drewN | apply keep_drew | apply keep_alloc) | exact HK.out)⟩

/-! ### octets_Cursor_Signed: function 69 -/
def octets_Cursor_Signed.f (s0_0 : ByteArray) (s0_1 : Int) (s0_2 : Int) : Option (Int × ByteArray × Int × Int) := (octets_Cursor_Int.f s0_0 s0_1 s0_2 4).bind fun bt126 => (some (wrap64 (wrap32 (bt126.1)), bt126.2.1, bt126.2.2.1, bt126.2.2.2))
set_option maxHeartbeats 8000000 in
set_option maxRecDepth 100000 in
theorem octets_Cursor_Signed.calls (g : Nat) (s0_0 : ByteArray) (s0_1 : Int) (s0_2 : Int) (r1 : Int) (r2 : ByteArray) (r3 : Int) (r4 : Int) (w0 w : World) (hI : IsS142 w0 w g s0_0 s0_1 s0_2) (hB : Below w0.heap.size w0 w) (h : octets_Cursor_Signed.f s0_0 s0_1 s0_2 = some (r1, r2, r3, r4)) :
  Calls Try.prog 69 #[.pointer (some ⟨g, 0, none⟩)] w fun e w' => e = .returned (.int .i64 r1) ∧ IsS142 w0 w' g r2 r3 r4 ∧ Below w0.heap.size w0 w' ∧ KeepBut w w' g none := by
 have HI0 := Aside0.mk hI
 have HK := Aside0.mk (KeepBut.refl w g none)
 have HL := Aside0.mk hB.size
 clear hI
 have HW0 := Aside0.mk hB.size
 have HB := Aside0.mk hB
 clear hB
 have H : ((octets_Cursor_Int.f s0_0 s0_1 s0_2 4).bind fun bt126 => (some (wrap64 (wrap32 (bt126.1)), bt126.2.1, bt126.2.2.1, bt126.2.2.2))) = some (r1, r2, r3, r4) := h
 clear h
 replace H := Option.bind_eq_some_iff.mp H
 obtain ⟨⟨t126, t127, t128, t129⟩, A20, H⟩ := H
 replace H : (some (wrap64 (wrap32 (t126)), t127, t128, t129)) = some (r1, r2, r3, r4) := H
 have A2 := Aside0.mk A20
 clear A20
 simp only [Option.some.injEq, Prod.mk.injEq] at H
 obtain ⟨rfl, rfl, rfl, rfl⟩ := H
 go_enter Try.func69, Try.ntmps69
 go_wp2_with (first | ((with_reducible refine gate_callee (f := 51) rfl ?_); refine goesL_ (some 4) rfl rfl Try.func51 (by kernel_rfl) rfl #[.pointer (some ⟨g, 0, none⟩), .int .i64 4] rfl (by (try simp only [List.map_toArray, List.map_cons, List.map_nil]); first | done | rfl | (simp only [List.length_drop, List.length_take]; rfl)) ?_; (with_reducible refine (octets_Cursor_Int.calls g s0_0 s0_1 s0_2 4 t126 t127 t128 t129 w0 _ ?side1 ?side2 A2.out).mono ?_); (case side1 => repeat (first | (with_reducible first | exact HI0.out | apply IsS142.alloc | apply IsS142.drewN | apply IsS142.drew | apply IsS142.set_0 | apply IsS142.set_1 | apply IsS142.set_2) | exact HI0.out)); (case side2 => repeat (first | (with_reducible first | exact HB.out | apply below_alloc | apply pw_below_drewN | apply below_drew1 | refine below_set ?_ (IsS142.ge HI0.out)) | exact HB.out)); rintro e w3 ⟨rfl, hi, hb, hk⟩; refine ⟨_, rfl, ?_⟩; have n0_ := Aside0.mk (KeepBut.trans (by repeat (first | (with_reducible first | exact HK.out | apply KeepBut.set_ | apply keep_drewN | apply keep_drew | apply keep_alloc) | exact HK.out)) hk (.inl rfl)); have n1_ := Aside0.mk (hb); have n2_ := Aside0.mk (hi); clear HK; clear HB; clear HI0; have HK := n0_; have HB := n1_; have HI0 := n2_; clear n0_ n1_ n2_; (try clear hb); (try clear hb2); (try clear hk); (try clear hi)))
 go_ret
 exact ⟨by first | rfl | (simp [errW_none, errW_some] <;> rfl) | (simp [*, errW_none, errW_some] <;> rfl), by repeat (first | (with_reducible first | exact HI0.out | apply IsS142.alloc | apply IsS142.drewN | apply IsS142.drew | apply IsS142.set_0 | apply IsS142.set_1 | apply IsS142.set_2) | exact HI0.out), by repeat (first | (with_reducible first | exact HB.out | apply below_alloc | apply pw_below_drewN | apply below_drew1 | refine below_set ?_ (IsS142.ge HI0.out)) | exact HB.out), by repeat (first | (with_reducible first | exact HK.out | apply KeepBut.set_ | apply keep_drewN | apply keep_drew | apply keep_alloc) | exact HK.out)⟩

/-! ### octets_New: function 81 -/
def octets_New.f (a0 : ByteArray) : Option (ByteArray × Int × Int) := some (a0, 0, 0)
set_option maxHeartbeats 8000000 in
set_option maxRecDepth 100000 in
theorem octets_New.calls (a0 : ByteArray) (r1 : ByteArray) (r2 : Int) (r3 : Int) (w0 w : World) (hB : Below w0.heap.size w0 w) (h : octets_New.f a0 = some (r1, r2, r3)) :
  Calls Try.prog 81 #[.string a0] w fun e w' => ∃ g_ : Nat, e = .returned (.pointer (some ⟨g_, 0, none⟩)) ∧ IsS142 w0 w' g_ r1 r2 r3 ∧ Below w0.heap.size w0 w' ∧ Below w.heap.size w w' := by
 have hu142 := Try.underlying142
 have HBW := Aside0.mk (Below.refl w.heap.size w)
 have HW0 := Aside0.mk hB.size
 have HB := Aside0.mk hB
 clear hB
 have H : (some (a0, 0, 0)) = some (r1, r2, r3) := h
 clear h
 simp only [Option.some.injEq, Prod.mk.injEq] at H
 obtain ⟨rfl, rfl, rfl⟩ := H
 go_enter Try.func81, Try.ntmps81
 go_wp2_with (first | ((with_reducible refine gate_dst (N := 5) rfl ?_); refine box_event ?hg (N := 5) ?hd (cs := #[.string a0, .int .i64 0, .int .i64 0]) (t := 142) ?hr ?_; (case hd => rfl); (case hg => rfl); (case hr => first | (go_simp; done) | (go_simp; rfl)); intro gb130 hg w2 hbox hb; have n0_ := Aside0.mk (below_step HBW.out hb); have n1_ := Aside0.mk (below_step (by repeat (first | (with_reducible first | exact HB.out | apply below_alloc | apply pw_below_drewN | apply below_drew1) | exact HB.out)) hb); have n2_ := Aside0.mk (hbox); have n3_ := Aside0.mk ((by rw [hg]; exact (below_size (by repeat (first | (with_reducible first | exact HBW.out | apply below_alloc | apply pw_below_drewN | apply below_drew1) | exact HBW.out))) : w.heap.size ≤ gb130)); have n4_ := Aside0.mk ((Nat.le_trans HW0.out (by rw [hg]; exact (below_size (by repeat (first | (with_reducible first | exact HBW.out | apply below_alloc | apply pw_below_drewN | apply below_drew1) | exact HBW.out))) : w.heap.size ≤ gb130) : w0.heap.size ≤ gb130)); clear HBW; clear HB; have HBW := n0_; have HB := n1_; have BK130 := n2_; have GW130 := n3_; have GE130 := n4_; clear n0_ n1_ n2_ n3_ n4_; clear hb hbox hg))
 go_ret
 exact ⟨_, rfl, (show IsS142 w0 _ gb130 a0 0 0 from ⟨by (with_reducible repeat (first | refine blk_drewN ?_ _ | refine blk_drew ?_ | refine blk_alloc ?_ _)); exact BK130.out, GE130.out⟩), by repeat (first | (with_reducible first | exact HB.out | apply below_alloc | apply pw_below_drewN | apply below_drew1 | refine below_set ?_ GE130.out) | exact HB.out), by repeat (first | (with_reducible first | exact HBW.out | apply below_alloc | apply pw_below_drewN | apply below_drew1 | refine below_set ?_ GW130.out) | exact HBW.out)⟩

/-! ### octets_Cursor_At: function 82 -/
def octets_Cursor_At.f (s0_0 : ByteArray) (s0_1 : Int) (s0_2 : Int) : Option (Int × ByteArray × Int × Int) := some (s0_1, s0_0, s0_1, s0_2)
set_option maxHeartbeats 8000000 in
set_option maxRecDepth 100000 in
theorem octets_Cursor_At.calls (g : Nat) (s0_0 : ByteArray) (s0_1 : Int) (s0_2 : Int) (r1 : Int) (r2 : ByteArray) (r3 : Int) (r4 : Int) (w0 w : World) (hI : IsS142 w0 w g s0_0 s0_1 s0_2) (hB : Below w0.heap.size w0 w) (h : octets_Cursor_At.f s0_0 s0_1 s0_2 = some (r1, r2, r3, r4)) :
  Calls Try.prog 82 #[.pointer (some ⟨g, 0, none⟩)] w fun e w' => e = .returned (.int .i64 r1) ∧ IsS142 w0 w' g r2 r3 r4 ∧ Below w0.heap.size w0 w' ∧ KeepBut w w' g none := by
 have HI0 := Aside0.mk hI
 have HK := Aside0.mk (KeepBut.refl w g none)
 have HL := Aside0.mk hB.size
 clear hI
 have HW0 := Aside0.mk hB.size
 have HB := Aside0.mk hB
 clear hB
 have H : (some (s0_1, s0_0, s0_1, s0_2)) = some (r1, r2, r3, r4) := h
 clear h
 simp only [Option.some.injEq, Prod.mk.injEq] at H
 obtain ⟨rfl, rfl, rfl, rfl⟩ := H
 obtain ⟨HGz2, hgz2⟩ := HI0.out
 have hcz2_0 := cellS142_0 HGz2
 have hcz2_1 := cellS142_1 HGz2
 have hcz2_2 := cellS142_2 HGz2
 have hfz2_0 := blk_frozen HGz2 0
 have hfz2_1 := blk_frozen HGz2 1
 have hfz2_2 := blk_frozen HGz2 2
 clear HGz2 hgz2
 go_enter Try.func82, Try.ntmps82
 go_wp2
 go_ret
 exact ⟨by first | rfl | (simp [errW_none, errW_some] <;> rfl) | (simp [*, errW_none, errW_some] <;> rfl), by repeat (first | (with_reducible first | exact HI0.out | apply IsS142.alloc | apply IsS142.drewN | apply IsS142.drew | apply IsS142.set_0 | apply IsS142.set_1 | apply IsS142.set_2) | exact HI0.out), by repeat (first | (with_reducible first | exact HB.out | apply below_alloc | apply pw_below_drewN | apply below_drew1 | refine below_set ?_ (IsS142.ge HI0.out)) | exact HB.out), by repeat (first | (with_reducible first | exact HK.out | apply KeepBut.set_ | apply keep_drewN | apply keep_drew | apply keep_alloc) | exact HK.out)⟩

end Go.Proofs.Ytpackckoblpbfaa.X
