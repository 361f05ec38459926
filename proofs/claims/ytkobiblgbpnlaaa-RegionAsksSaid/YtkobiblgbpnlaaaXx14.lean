/- What each Go function that these laws use answers: as a Lean function, with the proof that the machine's call comes to it. Written by a program of this session (xprint.py). -/
import Derived.Test.YtkobiblgbpnlaaaXx0
namespace Go.Proofs.Ytkobiblgbpnlaaa.X
open Go.RowKit Go.Proofs.YtkobiblgbpnlaaaW.PrintWords Go.Proofs.YtkobiblgbpnlaaaW.PrintLast Go.Proofs.YtkobiblgbpnlaaaW.PrintMore
attribute [local go_sem] max2_int min2_int max_two min_two max_three min_three max_four min_four   -- for this text's walks alone
set_option linter.unusedVariables false
set_option linter.unusedSimpArgs false

/-! ### region_in: function 33 -/
/-- Is a place in one of some pieces? -/
def inS (l : List S60) (x : Int) : Bool := l.any fun s => decide (s.f0 ≤ x) && decide (x < s.f1)
def region_in.f (l0 : List S60) (a1 : Int) : Option Bool := if l0.length ≤ 4611686018427387904 then some (inS l0 a1) else none
theorem in_pred (u v x : Int) (b : Nat) (w : World) (hx : w.heap[b]? = some (.cells #[.int .i64 x] 3 (0, 0))) :
    Calls Try.prog 48 #[.agg #[.int .i64 u, .int .i64 v], .pointer (some ⟨b, 0, none⟩)] w fun e w' => e = .returned (.bool (decide (u ≤ x) && decide (x < v))) ∧ Below w.heap.size w w' := by
  have hlt := blk_lt hx
  have y0 : w.cell? ⟨b, 0, none⟩ = some (.int .i64 x) := (blk_cell hx 0).trans rfl
  have hb := below_alloc (Below.refl w.heap.size w) (.cells #[.int .i64 u, .int .i64 v] 60)
  clear hx
  obtain ⟨Wa, hWa⟩ : ∃ X, w.alloc (.cells #[.int .i64 u, .int .i64 v] 60) = X := ⟨_, rfl⟩
  have HXa := Lib.hid (show Wa.heap[w.heap.size]? = some (.cells #[.int .i64 u, .int .i64 v] 60 (0, 0)) from by rw [← hWa]; exact heap_alloc_new w _)
  rw [hWa] at hb
  have HB := Lib.hid hb
  have y1 : Wa.cell? ⟨b, 0, none⟩ = some (.int .i64 x) := (hb.cell (p := ⟨b, 0, none⟩) hlt).trans y0
  have y2 : Wa.cell? ⟨w.heap.size, 0, none⟩ = some (.int .i64 u) := (blk_cell HXa.out 0).trans rfl
  have y3 : Wa.cell? ⟨w.heap.size, 1, none⟩ = some (.int .i64 v) := (blk_cell HXa.out 1).trans rfl
  clear hb y0
  go_enter Try.func48, Try.ntmps48
  go_upto_region 1 with (fail)
  try rw [hWa]
  clear hWa hlt
  by_cases h : u ≤ x
  · have d : decide (u ≤ x) = true := decide_eq_true h
    have HD := Lib.hid d
    clear h
    go_wp2_with fail
    go_ret
    exact ⟨by rw [HD.out]; simp, HB.out⟩
  · have d : decide (u ≤ x) = false := decide_eq_false h
    have HD := Lib.hid d
    clear h
    go_wp2_with fail
    go_ret
    exact ⟨by rw [HD.out]; simp, HB.out⟩
set_option maxHeartbeats 4000000 in
set_option maxRecDepth 100000 in
theorem in_index (A : Option Addr) (c : Nat) (l : List S60) (x : Int) (b : Nat) (w : World) (hr : Kd.C k60 w A l.length l) (hl : l.length ≤ 4611686018427387904) (hx : w.heap[b]? = some (.cells #[.int .i64 x] 3 (0, 0))) :
    Calls Try.prog 56 #[.slice A l.length c, .func (.func 48) #[] #[.pointer (some ⟨b, 0, none⟩)]] w fun e w' => (∃ r : Int, e = .returned (.int .i64 r) ∧ decide (r ≥ 0) = inS l x) ∧ Below w.heap.size w w' := by
  have HR := Lib.hid hr
  have HX := Lib.hid hx
  clear hr hx
  go_enter Try.func56, Try.ntmps56
  go_wp2_with fail
  go_loopw [5, 8] (fun p5 p8 wr => ∃ k : Nat, k ≤ l.length ∧ p8 = .int .i64 k ∧ Hid (∀ s ∈ l.take k, (decide (s.f0 ≤ x) && decide (x < s.f1)) = false) ∧ Hid (Below w.heap.size w wr)) (fun _ p8 _ => l.length - (intOf p8).toNat)
  case atStart => exact ⟨0, Nat.zero_le _, rfl, Lib.hid (by simp), Lib.hid (Below.refl _ _)⟩
  case round =>
    obtain ⟨k, hk, rfl, HN, HB⟩ := hrel
    by_cases hkl : k < l.length
    · have c0 : decide ((k : Int) < (l.length : Int)) = true := decide_eq_true (by omega)
      have c1 : decide (k < l.length) = true := decide_eq_true hkl
      have p0 : (0 : Int) ≤ (k : Int) := by omega
      have p1 : (k : Int) < (l.length : Int) := by omega
      obtain ⟨ad, rfl, h0, h1⟩ := at_T60 HR.out (k : Int) p0 p1
      rw [Int.toNat_natCast] at h0 h1
      have e0 : rd_T60 l (k : Int) = l[k] := by unfold rd_T60; rw [Int.toNat_natCast, List.getD_eq_getElem?_getD, List.getElem?_eq_getElem hkl]; rfl
      obtain ⟨s, hs⟩ : ∃ s, l[k] = s := ⟨_, rfl⟩
      rw [e0, hs] at h0 h1
      obtain ⟨u, v⟩ := s
      dsimp only at h0 h1
      have HS := Lib.hid hs
      have h2 := pw_cell_below HB.out h0
      have h3 := pw_cell_below HB.out h1
      have HX2 := Lib.hid ((HB.out.block _ (blk_lt HX.out)).trans HX.out)
      clear h0 h1 e0 hs
      have hadd : k + 1 ≤ 4611686018427387904 := by omega
      cases hq : (decide (u ≤ x) && decide (x < v)) with
      | true =>
        have HQ := Lib.hid hq
        have hcall := in_pred u v x b _ HX2.out
        rw [hq] at hcall
        have HCL := Lib.hid hcall
        clear hq hcall
        go_wp2_with fail
        refine HCL.out.mono ?_
        rintro e w' ⟨rfl, hb'⟩
        go_wp2_with fail
        go_ret
        refine ⟨⟨(k : Int), rfl, ?_⟩, HB.out.trans (Below.mono hb' HB.out.size)⟩
        have h4 : inS l x = true := List.any_eq_true.2 ⟨⟨u, v⟩, by rw [← HS.out]; exact List.getElem_mem hkl, HQ.out⟩
        rw [h4]
        exact decide_eq_true p0
      | false =>
        have HQ := Lib.hid hq
        have hcall := in_pred u v x b _ HX2.out
        rw [hq] at hcall
        have HCL := Lib.hid hcall
        clear hq hcall
        go_wp2_with fail
        refine HCL.out.mono ?_
        rintro e w' ⟨rfl, hb'⟩
        go_wp2_with fail
        refine ⟨⟨k + 1, by omega, by push_cast; rfl, Lib.hid ?_, Lib.hid (HB.out.trans (Below.mono hb' HB.out.size))⟩, by show l.length - ((k : Int) + 1).toNat < l.length - ((k : Int)).toNat; omega⟩
        rw [List.take_succ_eq_append_getElem hkl, HS.out]
        intro s hs
        rcases List.mem_append.1 hs with hs | hs
        · exact HN.out s hs
        · rw [List.mem_singleton.1 hs]; exact HQ.out
    · have c0 : decide ((k : Int) < (l.length : Int)) = false := decide_eq_false (by omega)
      have c1 : decide (k < l.length) = false := decide_eq_false hkl
      have hn := HN.out
      rw [List.take_of_length_le (by omega)] at hn
      have h4 : inS l x = false := List.any_eq_false.2 fun s hs => by rw [hn s hs]; decide
      have H4 := Lib.hid h4
      clear hn h4
      go_wp2_with fail
      go_ret
      exact ⟨⟨-1, rfl, by rw [H4.out]; rfl⟩, HB.out⟩
theorem region_in.callsL (A0 : Option Addr) (c0 : Nat) (l0 : List S60) (a1 : Int) (w : World) (hr0 : Kd.C k60 w A0 l0.length l0) (hl : l0.length ≤ 4611686018427387904) :
    Calls Try.prog 33 #[.slice A0 l0.length c0, .int .i64 a1] w fun e w' => e = .returned (.bool (inS l0 a1)) ∧ Below w.heap.size w w' := by
  have hb := below_alloc (Below.refl w.heap.size w) (.cells #[.int .i64 a1] 3)
  obtain ⟨Wa, hWa⟩ : ∃ X, w.alloc (.cells #[.int .i64 a1] 3) = X := ⟨_, rfl⟩
  have HXa := Lib.hid (show Wa.heap[w.heap.size]? = some (.cells #[.int .i64 a1] 3 (0, 0)) from by rw [← hWa]; exact heap_alloc_new w _)
  rw [hWa] at hb
  have HB := Lib.hid hb
  have HR := Lib.hid (Kd.C_below hr0 hb)
  clear hr0 hb
  go_enter Try.func33, Try.ntmps33
  go_upto_region 1 with (fail)
  try rw [hWa]
  clear hWa
  have hcon : Calls Try.prog 47 #[.slice A0 l0.length c0, .func (.func 48) #[] #[.pointer (some ⟨w.heap.size, 0, none⟩)]] Wa fun e w' => e = .returned (.bool (inS l0 a1)) ∧ Below Wa.heap.size Wa w' := by
    go_enter Try.func47, Try.ntmps47
    go_wp2_with fail
    refine (in_index A0 c0 l0 a1 w.heap.size Wa HR.out hl HXa.out).mono ?_
    rintro e w' ⟨⟨r, rfl, h1⟩, hb⟩
    have H1 := Lib.hid h1
    have H2 := Lib.hid hb
    clear h1 hb
    go_wp2_with fail
    go_ret
    exact ⟨by rw [← H1.out]; first | rfl | simp, H2.out⟩
  have HC := Lib.hid hcon
  clear hcon
  go_wp2_with fail
  refine HC.out.mono ?_
  rintro e w' ⟨rfl, hb⟩
  have H2 := Lib.hid (HB.out.trans (Below.mono hb HB.out.size))
  clear hb
  go_wp2_with fail
  go_ret
  exact ⟨rfl, H2.out⟩
theorem region_in.calls (A0 : Option Addr) (c0 : Nat) (l0 : List S60) (a1 : Int) (r : Bool) (w : World) (hr0 : Kd.C k60 w A0 l0.length l0) (hc0 : l0.length ≤ c0) (h : region_in.f l0 a1 = some r) :
    Calls Try.prog 33 #[.slice A0 l0.length c0, .int .i64 a1] w fun e w' => e = .returned (.bool r) ∧ Below w.heap.size w w' := by
  unfold region_in.f at h
  split at h
  · cases h; exact region_in.callsL A0 c0 l0 a1 w hr0 ‹_›
  · cases h

-- NOT PRINTED: function 60 (region_span_60)

-- NOT PRINTED: function 55 (region_span_55)

end Go.Proofs.Ytkobiblgbpnlaaa.X
