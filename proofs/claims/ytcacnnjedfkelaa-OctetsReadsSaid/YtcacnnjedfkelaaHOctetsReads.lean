/- OctetsReads: whatever is asked of whatever bytes, each answer, and what is left, is the reference's. No condition. -/
import Derived.Test.YtcacnnjedfkelaaO5
import Derived.Lib.Hide
import Derived.Deep.QuietTactic
import Derived.BigQuiet
import Derived.Deep.RegionHeld3
namespace Go.Proofs.Ytcacnnjedfkelaa.H
open Go.RowKit Go.Proofs.Ytcacnnjedfkelaa.X Go.Proofs.Ytcacnnjedfkelaa.B Go.Proofs.Ytcacnnjedfkelaa.O Go.Proofs.YtcacnnjedfkelaaW.PrintWords Go.Proofs.YtcacnnjedfkelaaW.PrintLast Go.Proofs.YtcacnnjedfkelaaW.PrintMore
set_option linter.unusedVariables false
set_option linter.unusedSimpArgs false
theorem rend_q (g : Nat) (s : ByteArray) (p e : Int) (w0 w : World) (h0 : 0 ≤ p) (h1 : p ≤ s.size) (hI : IsS39 w0 w g s p e) :
    Calls Try.prog 28 #[.pointer (some ⟨g, 0, none⟩)] w fun r w' => r = .returned (.int .i64 (endE s p e)) ∧ ∃ m, w' = w.drewN m := by
  obtain ⟨hb, hg⟩ := hI
  have hc := cellS39_2 hb
  have hc1 := cellS39_1 hb
  have hc0 := cellS39_0 hb
  clear hb hg
  by_cases he : e = 0
  · subst he
    by_cases hp : p < s.size
    · have HE : Hid (endE s p 0 = 3) := Lib.hid (by unfold endE; rw [if_pos ⟨rfl, hp⟩])
      have hd : decide (p < (s.size : Int)) = true := decide_eq_true (by omega)
      go_enter Try.func28, Try.ntmps28
      go_wp2
      go_quiet (fail)
      go_wp2
      go_ret
      exact ⟨by rw [HE.out]; rfl, _, rfl⟩
    · have HE : Hid (endE s p 0 = 0) := Lib.hid (by unfold endE; rw [if_neg (fun h => hp h.2)])
      have hd : decide (p < (s.size : Int)) = false := decide_eq_false (by omega)
      go_enter Try.func28, Try.ntmps28
      go_wp2
      go_quiet (fail)
      go_wp2
      go_ret
      exact ⟨by rw [HE.out]; rfl, _, rfl⟩
  · have HE : Hid (endE s p e = e) := Lib.hid (by unfold endE; rw [if_neg (fun h => he h.1)])
    have b1 : (e == 0) = false := by simpa using he
    clear he
    go_enter Try.func28, Try.ntmps28
    go_wp2
    go_quiet (fail)
    go_wp2
    go_ret
    exact ⟨by rw [HE.out]; rfl, _, rfl⟩
theorem rbytes_c (g : Nat) (s : ByteArray) (p e n : Int) (x : ByteArray) (p' e' : Int) (w0 w : World) (hs : s.size ≤ 4611686018427387904) (h0 : 0 ≤ p) (h1 : p ≤ s.size) (hr : rdB s p e n = (x, p', e')) (hI : IsS39 w0 w g s p e) (hB : Below w0.heap.size w0 w) :
    Calls Try.prog 26 #[.pointer (some ⟨g, 0, none⟩), .int .i64 n] w fun r w' => r = .returned (.string x) ∧ IsS39 w0 w' g s p' e' ∧ Below w0.heap.size w0 w' ∧ KeepBut w w' g none :=
  miradorref01_Cursor_Bytes.calls g s p e n x s p' e' w0 w hI hB (by rw [rBytes_f s p e n hs h0 h1, hr])
theorem rint_c (g : Nat) (s : ByteArray) (p e n : Int) (v p' e' : Int) (w0 w : World) (hs : s.size ≤ 4611686018427387904) (h0 : 0 ≤ p) (h1 : p ≤ s.size) (hr : (beN (bytesOf (rdB s p (asked e n) n).1), (rdB s p (asked e n) n).2.1, (rdB s p (asked e n) n).2.2) = (v, p', e')) (hI : IsS39 w0 w g s p e) (hB : Below w0.heap.size w0 w) :
    Calls Try.prog 22 #[.pointer (some ⟨g, 0, none⟩), .int .i64 n] w fun r w' => r = .returned (.int .i64 v) ∧ IsS39 w0 w' g s p' e' ∧ Below w0.heap.size w0 w' ∧ KeepBut w w' g none := by
  simp only [Prod.mk.injEq] at hr
  exact miradorref01_Cursor_Int.calls 10 g s p e n v s p' e' w0 w hI hB (by rw [rCInt_f (by omega) s p e n hs h0 h1, hr.1, hr.2.1, hr.2.2])
theorem rlittle_c (g : Nat) (s : ByteArray) (p e n : Int) (v p' e' : Int) (w0 w : World) (hs : s.size ≤ 4611686018427387904) (h0 : 0 ≤ p) (h1 : p ≤ s.size) (hr : (beN (bytesOf (rdB s p (asked e n) n).1).reverse, (rdB s p (asked e n) n).2.1, (rdB s p (asked e n) n).2.2) = (v, p', e')) (hI : IsS39 w0 w g s p e) (hB : Below w0.heap.size w0 w) :
    Calls Try.prog 24 #[.pointer (some ⟨g, 0, none⟩), .int .i64 n] w fun r w' => r = .returned (.int .i64 v) ∧ IsS39 w0 w' g s p' e' ∧ Below w0.heap.size w0 w' ∧ KeepBut w w' g none := by
  simp only [Prod.mk.injEq] at hr
  exact miradorref01_Cursor_Little.calls 10 g s p e n v s p' e' w0 w hI hB (by rw [rCLittle_f (by omega) s p e n hs h0 h1, hr.1, hr.2.1, hr.2.2])
theorem rsigned_c (g : Nat) (s : ByteArray) (p e : Int) (v p' e' : Int) (w0 w : World) (hs : s.size ≤ 4611686018427387904) (h0 : 0 ≤ p) (h1 : p ≤ s.size) (hr : (wrap64 (wrap32 (beN (bytesOf (rdB s p e 4).1))), (rdB s p e 4).2.1, (rdB s p e 4).2.2) = (v, p', e')) (hI : IsS39 w0 w g s p e) (hB : Below w0.heap.size w0 w) :
    Calls Try.prog 25 #[.pointer (some ⟨g, 0, none⟩)] w fun r w' => r = .returned (.int .i64 v) ∧ IsS39 w0 w' g s p' e' ∧ Below w0.heap.size w0 w' ∧ KeepBut w w' g none := by
  simp only [Prod.mk.injEq] at hr
  exact miradorref01_Cursor_Signed.calls 10 g s p e v s p' e' w0 w hI hB (by rw [rCSigned_f (by omega) s p e hs h0 h1, hr.1, hr.2.1, hr.2.2])
/-- Both cursors stand alike. -/
def Both (w w' : World) (g1 g2 : Nat) (s : ByteArray) (p e : Int) : Prop := IsS46 w w' g1 s p e ∧ IsS39 w w' g2 s p e ∧ Below w.heap.size w w'
theorem Both.ne {w w' : World} {g1 g2 : Nat} {s : ByteArray} {p e p2 e2 : Int} {t : ByteArray} (h : IsS46 w w' g1 s p e) (h2 : IsS39 w w' g2 t p2 e2) : g1 ≠ g2 := by
  rintro rfl
  obtain ⟨a, _⟩ := h
  obtain ⟨b, _⟩ := h2
  rw [a] at b
  injection b with b
  injection b with _ b
  exact absurd b (by decide)
theorem rcur_keep {w0 W W1 : World} {g g' : Nat} {s : ByteArray} {p e : Int} (h : IsS39 w0 W g s p e) (hk : KeepBut W W1 g' none) (hne : g ≠ g') : IsS39 w0 W1 g s p e := by
  obtain ⟨hb, hg⟩ := h
  exact ⟨KeepBut.blk hk hb hne (by simp), hg⟩
set_option maxHeartbeats 8000000 in
set_option maxRecDepth 100000 in
theorem OctetsReads_walk (s : ByteArray) (A1 : Option Addr) (len1 cap1 : Nat) (z1 : List Int) (A2 : Option Addr) (len2 cap2 : Nat) (z2 : List Int) (w : World) (hs : s.size ≤ 140737488351232)
    (hz1 : (A1 = none ∧ len1 = 0 ∧ cap1 = 0 ∧ z1 = []) ∨ ∃ x, A1 = some x ∧ len1 ≤ cap1 ∧ cap1 ≤ maxLen ∧ z1.length = cap1 ∧ (∀ i, i < z1.length → w.cell? (x.add i) = some (.int .i64 (z1.getD i 0))) ∧ ∀ n ∈ z1, (Lit.int .i64 n).wf = true) (hy1 : len1 * 8 ≤ 140737488351232)
    (hz2 : (A2 = none ∧ len2 = 0 ∧ cap2 = 0 ∧ z2 = []) ∨ ∃ x, A2 = some x ∧ len2 ≤ cap2 ∧ cap2 ≤ maxLen ∧ z2.length = cap2 ∧ (∀ i, i < z2.length → w.cell? (x.add i) = some (.int .i64 (z2.getD i 0))) ∧ ∀ n ∈ z2, (Lit.int .i64 n).wf = true) (hy2 : len2 * 8 ≤ 140737488351232) :
    Calls Try.prog 6 #[.string s, .slice A1 len1 cap1, .slice A2 len2 cap2] w fun e w' => e = .returned (.bool true) ∧ Below w.heap.size w w' := by
  obtain ⟨l1, rfl, hr1, hm1, hwf1, hcap1⟩ := ReadsInt.ofRowC hz1
  obtain ⟨l2, rfl, hr2, hm2, hwf2, hcap2⟩ := ReadsInt.ofRowC hz2
  have HR1 := Lib.hid hr1
  have HR2 := Lib.hid hr2
  clear hz1 hr1 hm1 hwf1 hcap1 hz2 hr2 hm2 hwf2 hcap2
  go_enter Try.func6, Try.ntmps6
  go_wp2_with (go_at_call 8; refine (works_c _).mono ?_; rintro e w1 ⟨rfl, hb⟩; have HB := Lib.hid hb; clear hb)
  all_goals first
    | (go_ret; exact ⟨rfl, HB.out⟩)
    | skip
  have q1 : (s.size : Int) ≤ 300 := by assumption
  have h0 : s.size ≤ 4611686018427387904 := by omega
  have hh : ((s.size : Int) ≤ 300 ∧ (l1.length : Int) ≤ 300) ∧ ((l1.length : Int) != (l2.length : Int)) = false := by assumption
  have hlen : l1.length = l2.length := by
    have := hh.2
    simp at this
    omega
  have HL := Lib.hid hlen
  clear hlen
  refine (new_c s w _ HB.out).mono ?_
  rintro e w2 ⟨g1, rfl, hi, hb, hb2, hg⟩
  have HI1 := Lib.hid hi
  have HB2 := Lib.hid hb
  clear hi hb hb2 hg
  go_wp2_with fail
  have HN1 := Lib.hid (IsS39.new w w2 s 0 0 HB2.out)
  have HS : Hid (IsS46 w (w2.alloc (.cells #[.string s, .int .i64 0, .int .i64 0] 39)) g1 s 0 0) := Lib.hid (IsS46.alloc HI1.out _)
  have HT : Hid (Below w.heap.size w (w2.alloc (.cells #[.string s, .int .i64 0, .int .i64 0] 39))) := Lib.hid (HB2.out.alloc HB2.out.size _)
  go_loopw [10] (fun i wr => ∃ (k : Nat) (p e : Int), k ≤ l1.length ∧ i = .int .i64 k ∧ 0 ≤ p ∧ p ≤ s.size ∧ Hid (IsS46 w wr g1 s p e) ∧ Hid (IsS39 w wr w2.heap.size s p e) ∧ Hid (Below w.heap.size w wr)) (fun i _ => l1.length - (intOf i).toNat)
  case atStart => exact ⟨0, 0, 0, Nat.zero_le _, rfl, by omega, by omega, HS, HN1, HT⟩
  case round =>
    obtain ⟨k, p, e, hk, rfl, p0, p1, HC, HD, HW⟩ := hrel
    have HN : Hid (g1 ≠ w2.heap.size) := Lib.hid (Both.ne HC.out HD.out)
    by_cases hlt : k < l1.length
    · obtain ⟨ad1, rfl, hel1⟩ := elem_at HR1.out k hlt
      have hlt2 : k < l2.length := by have := HL.out; omega
      obtain ⟨ad, rfl, hel⟩ := elem_at HR2.out k hlt2
      have HE := Lib.hid hel
      have HE1 := Lib.hid hel1
      generalize l2.getD k 0 = v at *
      generalize l1.getD k 0 = u at *
      clear hel hel1
      have he1 := HE1.out _ HW.out
      go_wp2_with fail
      · have hok := rdB_ok s p (asked e v) v p0 p1
        obtain ⟨x, p', e', hx⟩ : ∃ x p' e', (beN (bytesOf (rdB s p (asked e v) v).1), (rdB s p (asked e v) v).2.1, (rdB s p (asked e v) v).2.2) = (x, p', e') := ⟨_, _, _, rfl⟩
        have XR := Lib.hid hx
        simp only [Prod.mk.injEq] at hx
        rw [hx.2.1] at hok
        obtain ⟨p2, p3, _⟩ := hok
        have he2 := HE.out _ HW.out
        clear hx he1
        go_region_held3 (fun w' => w'.cell? (ad.add k) = some (.int .i64 v)) (first | exact HE.out _ HB6.out | exact HE.out _ HB5.out | exact HE.out _ HW.out | exact HE.out _ (below_drew HW.out))
          (first | (go_at_call 20; refine (int_c g1 s p e v _ p' e' w _ h0 p0 p1 XR.out (by first | exact HC.out | exact IsS46.drewN HC.out _) (by first | exact HW.out | exact pw_below_drewN HW.out _)).mono ?_; rintro r w5 ⟨rfl, hi, hb, hkp⟩; have HC5 := Lib.hid hi; have HB5 := Lib.hid hb; have HD5 := Lib.hid (rcur_keep (show IsS39 w _ w2.heap.size s p e by first | exact HD.out | exact IsS39.drewN HD.out _) hkp (Ne.symm HN.out)); clear hi hb hkp) | (go_at_call 22; refine (rint_c w2.heap.size s p e v _ p' e' w _ h0 p0 p1 XR.out (by first | exact HD5.out | exact IsS39.drewN HD5.out _) (by first | exact HB5.out | exact pw_below_drewN HB5.out _)).mono ?_; rintro r w6 ⟨rfl, hi, hb, hkp⟩; have HD6 := Lib.hid hi; have HB6 := Lib.hid hb; have HC6 := Lib.hid (cur_keep (show IsS46 w _ g1 s p' e' by first | exact HC5.out | exact IsS46.drewN HC5.out _) hkp HN.out); clear hi hb hkp))
        clear he2
        go_wp2_with fail
        obtain ⟨hb, hg⟩ := HD6.out
        have hc1 := cellS39_1 hb
        have hc2 := cellS39_2 hb
        clear hb hg
        have hsub := IntKind.wrap_i64 0
        clear hsub
        go_quiet ((first | (go_at_call 17; exact Calls.quiet_of_same ((at_q g1 s _ _ w _ (IsS46.drewN HC6.out _)).mono fun _ _ h => ⟨h.1, h.2.symm⟩)) | (go_at_call 19; exact Calls.quiet_of_same ((err_q g1 s _ _ w _ (IsS46.drewN HC6.out _)).mono fun _ _ h => ⟨h.1, h.2.symm⟩)) | (go_at_call 27; exact Calls.quiet_of (left_q g1 s _ _ w _ h0 p2 p3 (IsS46.drewN HC6.out _))) | (go_at_call 18; exact Calls.quiet_of (end_q g1 s _ _ w _ h0 p2 p3 (IsS46.drewN HC6.out _))) | (go_at_call 28; exact Calls.quiet_of (rend_q w2.heap.size s _ _ w _ p2 p3 (IsS39.drewN HD6.out _)))))
        clear hc1 hc2
        go_wp2
        go_roundw
        case rel => exact ⟨k + 1, _, _, by omega, by go_num, p2, p3, Lib.hid (IsS46.drewN HC6.out _), Lib.hid (IsS39.drewN HD6.out _), Lib.hid (pw_below_drewN HB6.out _)⟩
        case measure => simp [intOf]; omega
      · have hok := rdB_ok s p (asked e v) v p0 p1
        obtain ⟨x, p', e', hx⟩ : ∃ x p' e', (beN (bytesOf (rdB s p (asked e v) v).1).reverse, (rdB s p (asked e v) v).2.1, (rdB s p (asked e v) v).2.2) = (x, p', e') := ⟨_, _, _, rfl⟩
        have XR := Lib.hid hx
        simp only [Prod.mk.injEq] at hx
        rw [hx.2.1] at hok
        obtain ⟨p2, p3, _⟩ := hok
        have he2 := HE.out _ HW.out
        clear hx he1
        go_region_held3 (fun w' => w'.cell? (ad.add k) = some (.int .i64 v)) (first | exact HE.out _ HB6.out | exact HE.out _ HB5.out | exact HE.out _ HW.out | exact HE.out _ (below_drew HW.out))
          (first | (go_at_call 23; refine (little_c g1 s p e v _ p' e' w _ h0 p0 p1 XR.out (by first | exact HC.out | exact IsS46.drewN HC.out _) (by first | exact HW.out | exact pw_below_drewN HW.out _)).mono ?_; rintro r w5 ⟨rfl, hi, hb, hkp⟩; have HC5 := Lib.hid hi; have HB5 := Lib.hid hb; have HD5 := Lib.hid (rcur_keep (show IsS39 w _ w2.heap.size s p e by first | exact HD.out | exact IsS39.drewN HD.out _) hkp (Ne.symm HN.out)); clear hi hb hkp) | (go_at_call 24; refine (rlittle_c w2.heap.size s p e v _ p' e' w _ h0 p0 p1 XR.out (by first | exact HD5.out | exact IsS39.drewN HD5.out _) (by first | exact HB5.out | exact pw_below_drewN HB5.out _)).mono ?_; rintro r w6 ⟨rfl, hi, hb, hkp⟩; have HD6 := Lib.hid hi; have HB6 := Lib.hid hb; have HC6 := Lib.hid (cur_keep (show IsS46 w _ g1 s p' e' by first | exact HC5.out | exact IsS46.drewN HC5.out _) hkp HN.out); clear hi hb hkp))
        clear he2
        go_wp2_with fail
        obtain ⟨hb, hg⟩ := HD6.out
        have hc1 := cellS39_1 hb
        have hc2 := cellS39_2 hb
        clear hb hg
        have hsub := IntKind.wrap_i64 0
        clear hsub
        go_quiet ((first | (go_at_call 17; exact Calls.quiet_of_same ((at_q g1 s _ _ w _ (IsS46.drewN HC6.out _)).mono fun _ _ h => ⟨h.1, h.2.symm⟩)) | (go_at_call 19; exact Calls.quiet_of_same ((err_q g1 s _ _ w _ (IsS46.drewN HC6.out _)).mono fun _ _ h => ⟨h.1, h.2.symm⟩)) | (go_at_call 27; exact Calls.quiet_of (left_q g1 s _ _ w _ h0 p2 p3 (IsS46.drewN HC6.out _))) | (go_at_call 18; exact Calls.quiet_of (end_q g1 s _ _ w _ h0 p2 p3 (IsS46.drewN HC6.out _))) | (go_at_call 28; exact Calls.quiet_of (rend_q w2.heap.size s _ _ w _ p2 p3 (IsS39.drewN HD6.out _)))))
        clear hc1 hc2
        go_wp2
        go_roundw
        case rel => exact ⟨k + 1, _, _, by omega, by go_num, p2, p3, Lib.hid (IsS46.drewN HC6.out _), Lib.hid (IsS39.drewN HD6.out _), Lib.hid (pw_below_drewN HB6.out _)⟩
        case measure => simp [intOf]; omega
      · have hok := rdB_ok s p e 4 p0 p1
        obtain ⟨x, p', e', hx⟩ : ∃ x p' e', (wrap64 (wrap32 (beN (bytesOf (rdB s p e 4).1))), (rdB s p e 4).2.1, (rdB s p e 4).2.2) = (x, p', e') := ⟨_, _, _, rfl⟩
        have XR := Lib.hid hx
        simp only [Prod.mk.injEq] at hx
        rw [hx.2.1] at hok
        obtain ⟨p2, p3, _⟩ := hok
        have he2 := HE.out _ HW.out
        clear hx he1
        clear he2
        refine (signed_c g1 s p e _ p' e' w _ h0 p0 p1 XR.out (by first | exact HC.out | exact IsS46.drewN HC.out _) (by first | exact HW.out | exact pw_below_drewN HW.out _)).mono ?_
        rintro r w5 ⟨rfl, hi, hb, hkp⟩
        have HC5 := Lib.hid hi
        have HB5 := Lib.hid hb
        have HD5 := Lib.hid (rcur_keep (show IsS39 w _ w2.heap.size s p e by first | exact HD.out | exact IsS39.drewN HD.out _) hkp (Ne.symm HN.out))
        clear hi hb hkp
        go_wp2_with fail
        refine (rsigned_c w2.heap.size s p e _ p' e' w _ h0 p0 p1 XR.out (by first | exact HD5.out | exact IsS39.drewN HD5.out _) (by first | exact HB5.out | exact pw_below_drewN HB5.out _)).mono ?_
        rintro r w6 ⟨rfl, hi, hb, hkp⟩
        have HD6 := Lib.hid hi
        have HB6 := Lib.hid hb
        have HC6 := Lib.hid (cur_keep (show IsS46 w _ g1 s p' e' by first | exact HC5.out | exact IsS46.drewN HC5.out _) hkp HN.out)
        clear hi hb hkp
        go_wp2_with fail
        obtain ⟨hb, hg⟩ := HD6.out
        have hc1 := cellS39_1 hb
        have hc2 := cellS39_2 hb
        clear hb hg
        have hsub := IntKind.wrap_i64 0
        clear hsub
        go_quiet ((first | (go_at_call 17; exact Calls.quiet_of_same ((at_q g1 s _ _ w _ (IsS46.drewN HC6.out _)).mono fun _ _ h => ⟨h.1, h.2.symm⟩)) | (go_at_call 19; exact Calls.quiet_of_same ((err_q g1 s _ _ w _ (IsS46.drewN HC6.out _)).mono fun _ _ h => ⟨h.1, h.2.symm⟩)) | (go_at_call 27; exact Calls.quiet_of (left_q g1 s _ _ w _ h0 p2 p3 (IsS46.drewN HC6.out _))) | (go_at_call 18; exact Calls.quiet_of (end_q g1 s _ _ w _ h0 p2 p3 (IsS46.drewN HC6.out _))) | (go_at_call 28; exact Calls.quiet_of (rend_q w2.heap.size s _ _ w _ p2 p3 (IsS39.drewN HD6.out _)))))
        clear hc1 hc2
        go_wp2
        go_roundw
        case rel => exact ⟨k + 1, _, _, by omega, by go_num, p2, p3, Lib.hid (IsS46.drewN HC6.out _), Lib.hid (IsS39.drewN HD6.out _), Lib.hid (pw_below_drewN HB6.out _)⟩
        case measure => simp [intOf]; omega
      · have hok := rdB_ok s p e v p0 p1
        obtain ⟨x, p', e', hx⟩ : ∃ x p' e', ((rdB s p e v).1, (rdB s p e v).2.1, (rdB s p e v).2.2) = (x, p', e') := ⟨_, _, _, rfl⟩
        have XR := Lib.hid hx
        simp only [Prod.mk.injEq] at hx
        rw [hx.2.1] at hok
        obtain ⟨p2, p3, _⟩ := hok
        have he2 := HE.out _ HW.out
        clear hx he1
        have XR := Lib.hid (show rdB s p e v = (x, p', e') from XR.out)
        go_region_held3 (fun w' => w'.cell? (ad.add k) = some (.int .i64 v)) (first | exact HE.out _ HB6.out | exact HE.out _ HB5.out | exact HE.out _ HW.out | exact HE.out _ (below_drew HW.out))
          (first | (go_at_call 16; refine (bytes_c g1 s p e v _ p' e' w _ h0 p0 p1 XR.out (by first | exact HC.out | exact IsS46.drewN HC.out _) (by first | exact HW.out | exact pw_below_drewN HW.out _)).mono ?_; rintro r w5 ⟨rfl, hi, hb, hkp⟩; have HC5 := Lib.hid hi; have HB5 := Lib.hid hb; have HD5 := Lib.hid (rcur_keep (show IsS39 w _ w2.heap.size s p e by first | exact HD.out | exact IsS39.drewN HD.out _) hkp (Ne.symm HN.out)); clear hi hb hkp) | (go_at_call 26; refine (rbytes_c w2.heap.size s p e v _ p' e' w _ h0 p0 p1 XR.out (by first | exact HD5.out | exact IsS39.drewN HD5.out _) (by first | exact HB5.out | exact pw_below_drewN HB5.out _)).mono ?_; rintro r w6 ⟨rfl, hi, hb, hkp⟩; have HD6 := Lib.hid hi; have HB6 := Lib.hid hb; have HC6 := Lib.hid (cur_keep (show IsS46 w _ g1 s p' e' by first | exact HC5.out | exact IsS46.drewN HC5.out _) hkp HN.out); clear hi hb hkp))
        clear he2
        go_wp2_with fail
        obtain ⟨hb, hg⟩ := HD6.out
        have hc1 := cellS39_1 hb
        have hc2 := cellS39_2 hb
        clear hb hg
        have hsub := IntKind.wrap_i64 0
        clear hsub
        go_quiet ((first | (go_at_call 17; exact Calls.quiet_of_same ((at_q g1 s _ _ w _ (IsS46.drewN HC6.out _)).mono fun _ _ h => ⟨h.1, h.2.symm⟩)) | (go_at_call 19; exact Calls.quiet_of_same ((err_q g1 s _ _ w _ (IsS46.drewN HC6.out _)).mono fun _ _ h => ⟨h.1, h.2.symm⟩)) | (go_at_call 27; exact Calls.quiet_of (left_q g1 s _ _ w _ h0 p2 p3 (IsS46.drewN HC6.out _))) | (go_at_call 18; exact Calls.quiet_of (end_q g1 s _ _ w _ h0 p2 p3 (IsS46.drewN HC6.out _))) | (go_at_call 28; exact Calls.quiet_of (rend_q w2.heap.size s _ _ w _ p2 p3 (IsS39.drewN HD6.out _)))))
        clear hc1 hc2
        go_wp2
        go_roundw
        case rel => exact ⟨k + 1, _, _, by omega, by go_num, p2, p3, Lib.hid (IsS46.drewN HC6.out _), Lib.hid (IsS39.drewN HD6.out _), Lib.hid (pw_below_drewN HB6.out _)⟩
        case measure => simp [intOf]; omega
      · have HC6 := HC
        have HD6 := HD
        have HB6 := HW
        have p2 := p0
        have p3 := p1
        clear he1
        obtain ⟨hb, hg⟩ := HD6.out
        have hc1 := cellS39_1 hb
        have hc2 := cellS39_2 hb
        clear hb hg
        have hsub := IntKind.wrap_i64 0
        clear hsub
        go_quiet ((first | (go_at_call 17; exact Calls.quiet_of_same ((at_q g1 s _ _ w _ (IsS46.drewN HC6.out _)).mono fun _ _ h => ⟨h.1, h.2.symm⟩)) | (go_at_call 19; exact Calls.quiet_of_same ((err_q g1 s _ _ w _ (IsS46.drewN HC6.out _)).mono fun _ _ h => ⟨h.1, h.2.symm⟩)) | (go_at_call 27; exact Calls.quiet_of (left_q g1 s _ _ w _ h0 p2 p3 (IsS46.drewN HC6.out _))) | (go_at_call 18; exact Calls.quiet_of (end_q g1 s _ _ w _ h0 p2 p3 (IsS46.drewN HC6.out _))) | (go_at_call 28; exact Calls.quiet_of (rend_q w2.heap.size s _ _ w _ p2 p3 (IsS39.drewN HD6.out _)))))
        clear hc1 hc2
        go_wp2
        go_roundw
        case rel => exact ⟨k + 1, _, _, by omega, by go_num, p2, p3, Lib.hid (IsS46.drewN HC6.out _), Lib.hid (IsS39.drewN HD6.out _), Lib.hid (pw_below_drewN HB6.out _)⟩
        case measure => simp [intOf]; omega
    · obtain rfl : k = l1.length := by omega
      go_wp2
      go_ret
      exact ⟨rfl, HW.out⟩
end Go.Proofs.Ytcacnnjedfkelaa.H
