/- What each Go function that these laws use answers: as a Lean function, with the proof that the machine's call comes to it. Written by a program of this session (xprint.py). -/
import Derived.Test.YtkmfhfejogjnfaaXx0
namespace Go.Proofs.Ytkmfhfejogjnfaa.X
open Go.RowKit Go.Proofs.YtkmfhfejogjnfaaW.PrintWords Go.Proofs.YtkmfhfejogjnfaaW.PrintLast Go.Proofs.YtkmfhfejogjnfaaW.PrintMore
attribute [local go_sem] max2_int min2_int max_two min_two max_three min_three max_four min_four   -- for this text's walks alone
set_option linter.unusedVariables false
set_option linter.unusedSimpArgs false

/-! ### octets_turned: function 63 -/
section
open Go.Sort Go.Lib
set_option maxHeartbeats 1600000 in
set_option maxRecDepth 100000 in
theorem octets_reverse (blk off cap : Nat) (d : Array Int) (w : World) (hH : Go.Sort.Holds (Value.int .u8) w blk off d) (hsz : d.size ≤ 9223372036854775807) :
    Calls Try.prog 78 #[.slice (some ⟨blk, off, none⟩) d.size cap] w fun e w' => e = .returned (.tuple #[]) ∧ ∃ n, w' = Go.Sort.putRow (Value.int .u8) (Go.Sort.ahead w n) blk off d.reverse := by
  go_enter Try.func78, Try.ntmps78
  go_wp2
  go_loopg [2, 3] d.size (fun k s2 s3 wr => ∃ (i jn : Nat) (jz : Int) (dk : Array Int) (n : Nat), s2 = .int .i64 i ∧ s3 = .int .i64 jz ∧ ((i : Int) < jz → jz = jn ∧ jn < d.size) ∧ (¬ (i : Int) < jz → ¬ i < jn) ∧ jn - i ≤ k ∧
    dk.size = d.size ∧ wr = Go.Sort.putRow (Value.int .u8) (Go.Sort.ahead w n) blk off dk ∧ reverseLoop i jn dk = reverseLoop 0 (d.size - 1) d)
  case atStart => exact ⟨0, d.size - 1, (d.size : Int) - 1, d, 0, rfl, rfl, fun h => ⟨by omega, by omega⟩, fun h => by omega, by omega, rfl, (putRow_self _ w blk off d hH).symm, rfl⟩
  case round =>
    obtain ⟨i, jn, jz, dk, n, rfl, rfl, h1, h2, hk, hds, hwr, heq⟩ := hrel
    by_cases hlt : (i : Int) < jz
    · obtain ⟨rfl, hjn⟩ := h1 hlt
      have hij : i < jn := by omega
      have hHk : Go.Sort.Holds (Value.int .u8) wr blk off dk := by rw [hwr]; exact holds_putRow _ _ blk off d dk (holds_ahead _ w n blk off d hH) hds
      obtain ⟨ci, fi⟩ := hHk i (by omega)
      obtain ⟨cj, fj⟩ := hHk jn (by omega)
      have A : Aside (wr = Go.Sort.putRow (Value.int .u8) (Go.Sort.ahead w n) blk off dk) := hwr
      clear hwr hHk hH h1 h2
      go_wp2_with fail
      go_region
      all_goals
        go_wp2
        go_roundg (jn - 1 - (i + 1))
        case measure => omega
        case rel =>
          rw [reverseLoop, if_pos hij] at heq
          exact ⟨i + 1, jn - 1, (jn : Int) - 1, swp dk i jn, n + 1, by simp, rfl, fun h => ⟨by omega, by omega⟩, fun h => by omega, Nat.le_refl _, by rw [size_swp]; exact hds,
            swap_world _ (by omega) (by omega) A.out (by first | rfl | simp [getElem!_pos, show jn < dk.size by omega]) (by first | rfl | simp [getElem!_pos, show i < dk.size by omega]), heq⟩
    · have hnot := h2 hlt
      go_wp2
      go_end0
      refine ⟨rfl, n, ?_⟩
      rw [reverseLoop, if_neg hnot] at heq
      rw [← Lib.reverseLoop_reverse, ← heq]

theorem bytesWorld_holds (w : World) (e : TypeId) (s : ByteArray) : Go.Sort.Holds (Value.int .u8) (Lib.bytesWorld w e s) w.heap.size 0 (bytesOf s).toArray := by
  intro j hj
  have hj' : j < s.size := by simpa [bytesOf_length] using hj
  refine ⟨?_, ?_⟩
  · rw [Nat.zero_add, Lib.bytesWorld_cell w e s j hj']
    simp [bytesOf, List.getD, List.getElem?_eq_getElem, hj']
  · have := Lib.bytesWorld_at_new w e s
    have hs : s.size ≤ (Lib.bytesCells w e s).size := by simp [Lib.bytesCells]
    simp [World.frozen?, this]
    omega
theorem bytesWorld_below (w : World) (e : TypeId) (s : ByteArray) : Below w.heap.size w (Lib.bytesWorld w e s) :=
  ⟨rfl, rfl, rfl, by rw [Lib.bytesWorld_size]; omega, fun k hk => Lib.bytesWorld_at_old w e s k hk⟩
def octets_turned.f (a0 : ByteArray) : Option ByteArray := if a0.size ≤ 140737488351232 then some (strOfNums (bytesOf a0).reverse) else none
set_option maxHeartbeats 1600000 in
set_option maxRecDepth 100000 in
theorem octets_turned.calls (a0 : ByteArray) (r : ByteArray) (w : World) (h : octets_turned.f a0 = some r) :
    Calls Try.prog 63 #[.string a0] w fun e w' => e = .returned (.string r) ∧ Below w.heap.size w w' := by
  unfold octets_turned.f at h
  split at h
  case isFalse => exact absurd h (by simp)
  case isTrue hs =>
  obtain rfl := Option.some.inj h
  have hcv := fun wx => Go.Lib.run_convert_string_bytes (P := Try.prog) wx 9 63 5 a0 Try.underlying9 Try.underlying63 Try.underlying5
  have hl : (bytesOf a0).length = a0.size := bytesOf_length a0
  have HR := Lib.hid (octets_reverse w.heap.size 0 (grownCap w a0.size 0 5) (bytesOf a0).toArray (Lib.bytesWorld w 5 a0) (bytesWorld_holds w 5 a0) (by simp [hl]; omega))
  have HL := Lib.hid hl
  have HC : ∀ n wx, wx = Go.Sort.putRow (Value.int .u8) (Go.Sort.ahead (Lib.bytesWorld w 5 a0) n) w.heap.size 0 (bytesOf a0).toArray.reverse → Hid ((convert 63 9 (.slice (some ⟨w.heap.size, 0, none⟩) a0.size (grownCap w a0.size 0 5))).run Try.prog wx = .ok (.string (strOfNums (bytesOf a0).reverse)) wx) := by
    rintro n wx rfl
    refine Lib.hid (run_convert_bytes_arg _ 63 5 Try.underlying63 Try.underlying5 w.heap.size 0 a0.size _ (bytesOf a0).reverse (by rw [List.length_reverse]; exact HL.out) (fun i hi => ?_) 9 Try.underlying9)
    have := (holds_putRow (Value.int .u8) (Go.Sort.ahead (Lib.bytesWorld w 5 a0) n) w.heap.size 0 (bytesOf a0).toArray (bytesOf a0).toArray.reverse (bytesWorld_holds w 5 a0) (by simp) i (by simp [HL.out]; exact hi)).1
    rw [this]
    simp [List.getD, getElem!_def]
    split <;> simp_all
  clear hl h
  go_enter Try.func63, Try.ntmps63
  go_wp2_with (first | (go_at_call 78; have hr := HR.out; simp only [List.size_toArray, HL.out] at hr; refine hr.mono ?_; clear hr; rintro e w' ⟨rfl, n, hw'⟩; have hc2 := (HC n w' hw').out; have HW := Lib.hid hw'; clear hw'))
  go_ret
  exact ⟨rfl, by rw [HW.out]; exact Lib.below_putRow (bytesWorld_below w 5 a0) (Nat.le_refl _)⟩
end

/-! ### octets_wide: function 84 -/
def octets_wide.f (a0 : Int) : Option (Bool) := if a0 = 1 then (some true) else (if a0 = 2 then (some true) else (some (a0 == 4)))
set_option maxHeartbeats 8000000 in
set_option maxRecDepth 100000 in
theorem octets_wide.calls (a0 : Int) (r : Bool) (w : World) (h : octets_wide.f a0 = some r) :
    Calls Try.prog 84 #[.int .i64 a0] w fun e w' => e = .returned (.bool r) ∧ Drawn0 w w' := by
  have H : (if a0 = 1 then (some true) else (if a0 = 2 then (some true) else (some (a0 == 4)))) = some r := h
  clear h
  by_cases c2 : a0 = 1
  · rw [if_pos c2] at H
    have c2b0 : (a0 == 1) = true := beq_iff_eq.mpr c2
    have c2b1 : (a0 != 1) = false := bne_eq_false_iff_eq.mpr c2
    clear c2
    obtain rfl := Option.some.inj H
    go_enter Try.func84, Try.ntmps84
    go_wp2
    go_ret
    exact ⟨by first | rfl | (simp; done) | (simp [*]; done), by repeat (first | exact Drawn0.refl _ | apply Drawn0.step)⟩
  · rw [if_neg c2] at H
    have c2b0 : (a0 == 1) = false := beq_eq_false_iff_ne.mpr c2
    have c2b1 : (a0 != 1) = true := bne_iff_ne.mpr c2
    by_cases c3 : a0 = 2
    · rw [if_pos c3] at H
      have c3b0 : (a0 == 2) = true := beq_iff_eq.mpr c3
      have c3b1 : (a0 != 2) = false := bne_eq_false_iff_eq.mpr c3
      clear c3
      obtain rfl := Option.some.inj H
      go_enter Try.func84, Try.ntmps84
      go_wp2
      go_ret
      exact ⟨by first | rfl | (simp; done) | (simp [*]; done), by repeat (first | exact Drawn0.refl _ | apply Drawn0.step)⟩
    · rw [if_neg c3] at H
      have c3b0 : (a0 == 2) = false := beq_eq_false_iff_ne.mpr c3
      have c3b1 : (a0 != 2) = true := bne_iff_ne.mpr c3
      obtain rfl := Option.some.inj H
      go_enter Try.func84, Try.ntmps84
      go_wp2
      go_ret
      exact ⟨by first | rfl | (simp; done) | (simp [*]; done), by repeat (first | exact Drawn0.refl _ | apply Drawn0.step)⟩

end Go.Proofs.Ytkmfhfejogjnfaa.X
