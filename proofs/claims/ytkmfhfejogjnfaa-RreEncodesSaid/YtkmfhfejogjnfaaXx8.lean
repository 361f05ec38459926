/- What each Go function that these laws use answers: as a Lean function, with the proof that the machine's call comes to it. Written by a program of this session (xprint.py). -/
import Derived.Test.YtkmfhfejogjnfaaXx0
import Derived.Test.YtkmfhfejogjnfaaXx7
namespace Go.Proofs.Ytkmfhfejogjnfaa.X
open Go.RowKit Go.Proofs.YtkmfhfejogjnfaaW.PrintWords Go.Proofs.YtkmfhfejogjnfaaW.PrintLast Go.Proofs.YtkmfhfejogjnfaaW.PrintMore
attribute [local go_sem] max2_int min2_int max_two min_two max_three min_three max_four min_four   -- for this text's walks alone
set_option linter.unusedVariables false
set_option linter.unusedSimpArgs false

/-! ### format_Valid: function 50 -/
/-- The three parts. -/
def format_pm (a4 a5 a6 a7 a8 a9 : Int) : Nat → Int × Int
  | 0 => (a4, a7)
  | 1 => (a5, a8)
  | _ => (a6, a9)
theorem format_box_new (w : World) (o : Obj) : (w.alloc o).heap[w.heap.size]? = some o := heap_alloc_new w o
set_option maxHeartbeats 1000000 in
set_option maxRecDepth 100000 in
theorem format_parts_c (a0_0 : Int) (a0_1 : Int) (a0_2 : Bool) (a0_3 : Bool) (a0_4 : Int) (a0_5 : Int) (a0_6 : Int) (a0_7 : Int) (a0_8 : Int) (a0_9 : Int) (w : World) :
    Calls Try.prog 67 #[.agg #[.int .i64 a0_0, .int .i64 a0_1, .bool a0_2, .bool a0_3, .int .i64 a0_4, .int .i64 a0_5, .int .i64 a0_6, .int .i64 a0_7, .int .i64 a0_8, .int .i64 a0_9]] w fun e w' => e = .returned (.agg #[.int .i64 a0_4, .int .i64 a0_7, .int .i64 a0_5, .int .i64 a0_8, .int .i64 a0_6, .int .i64 a0_9]) ∧ Below w.heap.size w w' := by
  go_enter Try.func67, Try.ntmps67
  go_wp2
  have hb : ((w.alloc (.cells #[.int .i64 a0_0, .int .i64 a0_1, .bool a0_2, .bool a0_3, .int .i64 a0_4, .int .i64 a0_5, .int .i64 a0_6, .int .i64 a0_7, .int .i64 a0_8, .int .i64 a0_9] 37)).alloc (.cells #[.int .i64 a0_4, .int .i64 a0_7, .int .i64 a0_5, .int .i64 a0_8, .int .i64 a0_6, .int .i64 a0_9] 103)).heap[w.heap.size + 1]? = some (.cells #[.int .i64 a0_4, .int .i64 a0_7, .int .i64 a0_5, .int .i64 a0_8, .int .i64 a0_6, .int .i64 a0_9] 103 (0, 0)) := by
    have := heap_alloc_new (w.alloc (.cells #[.int .i64 a0_0, .int .i64 a0_1, .bool a0_2, .bool a0_3, .int .i64 a0_4, .int .i64 a0_5, .int .i64 a0_6, .int .i64 a0_7, .int .i64 a0_8, .int .i64 a0_9] 37)) (.cells #[.int .i64 a0_4, .int .i64 a0_7, .int .i64 a0_5, .int .i64 a0_8, .int .i64 a0_6, .int .i64 a0_9] 103)
    rwa [World.size_alloc] at this
  refine bodyPost_ret (results_cell_row rfl _ _ (w.heap.size + 1) 103 #[.int .i64 a0_4, .int .i64 a0_7, .int .i64 a0_5, .int .i64 a0_8, .int .i64 a0_6, .int .i64 a0_9] (0, 0) _ rfl hb Try.underlying103 rfl (by kernel_rfl)) rfl ?_
  exact ⟨rfl, below_alloc (below_alloc (Below.refl _ _) _) _⟩
/-- May the parts be, of a value of n bits? -/
def format_okF (n : Int) : List (Int × Int) → Int → Option Bool
  | [], _ => some true
  | (m, s) :: l, met => (format_part_right.f m s n).bind fun r => if r = true then ((format_part_mask.f m s).bind fun q => if Go.bits .and .i64 met q = 0 then format_okF n l (Go.bits .or .i64 met q) else some false) else some false
def format_Valid.f (a0_0 : Int) (a0_1 : Int) (a0_2 : Bool) (a0_3 : Bool) (a0_4 : Int) (a0_5 : Int) (a0_6 : Int) (a0_7 : Int) (a0_8 : Int) (a0_9 : Int) : Option Bool :=
  if a0_0 = 8 ∨ a0_0 = 16 ∨ a0_0 = 32 then (if a0_1 < 1 then some false else if a0_1 > a0_0 then some false else if a0_3 = true then format_okF a0_0 [(a0_4, a0_7), (a0_5, a0_8), (a0_6, a0_9)] 0 else some false) else some false
theorem format_okF_cons {n m s met : Int} {l : List (Int × Int)} {r : Bool} (h : format_okF n ((m, s) :: l) met = some r) :
    (format_part_right.f m s n = some false ∧ r = false) ∨ (format_part_right.f m s n = some true ∧ ∃ q, format_part_mask.f m s = some q ∧ ((Go.bits .and .i64 met q ≠ 0 ∧ r = false) ∨ (Go.bits .and .i64 met q = 0 ∧ format_okF n l (Go.bits .or .i64 met q) = some r))) := by
  unfold format_okF at h
  cases hr : format_part_right.f m s n with
  | none => rw [hr] at h; cases h
  | some b =>
    rw [hr] at h
    simp only [Option.bind_some] at h
    cases b with
    | false => rw [if_neg (by decide)] at h; exact .inl ⟨rfl, (Option.some.inj h).symm⟩
    | true =>
      rw [if_pos rfl] at h
      refine .inr ⟨rfl, ?_⟩
      cases hq : format_part_mask.f m s with
      | none => rw [hq] at h; cases h
      | some q =>
        rw [hq] at h
        simp only [Option.bind_some] at h
        refine ⟨q, rfl, ?_⟩
        by_cases h0 : Go.bits .and .i64 met q = 0
        · rw [if_pos h0] at h; exact .inr ⟨h0, h⟩
        · rw [if_neg h0] at h; exact .inl ⟨h0, (Option.some.inj h).symm⟩
def format_rest (a4 a5 a6 a7 a8 a9 : Int) (k : Nat) : List (Int × Int) := [(a4, a7), (a5, a8), (a6, a9)].drop k
theorem format_rest_at (a4 a5 a6 a7 a8 a9 : Int) (k : Nat) (hk : k < 3) : format_rest a4 a5 a6 a7 a8 a9 k = ((format_pm a4 a5 a6 a7 a8 a9 k).1, (format_pm a4 a5 a6 a7 a8 a9 k).2) :: format_rest a4 a5 a6 a7 a8 a9 (k + 1) := by
  rcases (show k = 0 ∨ k = 1 ∨ k = 2 by omega) with rfl | rfl | rfl <;> rfl
theorem format_index (a4 a5 a6 a7 a8 a9 : Int) (k : Nat) (hk : k < 3) (w : World) : (Instr.index 103 (.agg #[.int .i64 a4, .int .i64 a7, .int .i64 a5, .int .i64 a8, .int .i64 a6, .int .i64 a9]) (.int .i64 (k : Int))).run Try.prog w = .ok (.agg #[.int .i64 (format_pm a4 a5 a6 a7 a8 a9 k).1, .int .i64 (format_pm a4 a5 a6 a7 a8 a9 k).2]) w := by
  rcases (show k = 0 ∨ k = 1 ∨ k = 2 by omega) with rfl | rfl | rfl <;> kernel_rfl
set_option maxHeartbeats 2000000 in
set_option maxRecDepth 100000 in
theorem format_Valid.calls (a0_0 : Int) (a0_1 : Int) (a0_2 : Bool) (a0_3 : Bool) (a0_4 : Int) (a0_5 : Int) (a0_6 : Int) (a0_7 : Int) (a0_8 : Int) (a0_9 : Int) (r : Bool) (w : World) (h : format_Valid.f a0_0 a0_1 a0_2 a0_3 a0_4 a0_5 a0_6 a0_7 a0_8 a0_9 = some r) :
    Calls Try.prog 50 #[.agg #[.int .i64 a0_0, .int .i64 a0_1, .bool a0_2, .bool a0_3, .int .i64 a0_4, .int .i64 a0_5, .int .i64 a0_6, .int .i64 a0_7, .int .i64 a0_8, .int .i64 a0_9]] w fun e w' => e = .returned (.bool r) ∧ Below w.heap.size w w' := by
  have HW := Lib.hid (below_alloc (Below.refl w.heap.size w) (.cells #[.int .i64 a0_0, .int .i64 a0_1, .bool a0_2, .bool a0_3, .int .i64 a0_4, .int .i64 a0_5, .int .i64 a0_6, .int .i64 a0_7, .int .i64 a0_8, .int .i64 a0_9] 37))
  unfold format_Valid.f at h
  by_cases hn : a0_0 = 8 ∨ a0_0 = 16 ∨ a0_0 = 32
  · rw [if_pos hn] at h
    by_cases h1 : a0_1 < 1
    · rw [if_pos h1] at h
      obtain rfl := Option.some.inj h
      clear h
      rcases hn with hn | hn | hn
      · have b1 : (a0_0 == 8) = true := by simp [hn]
        clear hn
        go_enter Try.func50, Try.ntmps50
        go_wp2
        go_ret
        exact ⟨rfl, HW.out⟩
      · have b1 : (a0_0 == 8) = false := by simp [hn]
        have b2 : (a0_0 == 16) = true := by simp [hn]
        clear hn
        go_enter Try.func50, Try.ntmps50
        go_wp2
        go_ret
        exact ⟨rfl, HW.out⟩
      · have b1 : (a0_0 == 8) = false := by simp [hn]
        have b2 : (a0_0 == 16) = false := by simp [hn]
        have b3 : (a0_0 == 32) = true := by simp [hn]
        clear hn
        go_enter Try.func50, Try.ntmps50
        go_wp2
        go_ret
        exact ⟨rfl, HW.out⟩
    · rw [if_neg h1] at h
      by_cases h2 : a0_1 > a0_0
      · rw [if_pos h2] at h
        obtain rfl := Option.some.inj h
        clear h
        rcases hn with hn | hn | hn
        · have b1 : (a0_0 == 8) = true := by simp [hn]
          clear hn
          go_enter Try.func50, Try.ntmps50
          go_wp2
          go_ret
          exact ⟨rfl, HW.out⟩
        · have b1 : (a0_0 == 8) = false := by simp [hn]
          have b2 : (a0_0 == 16) = true := by simp [hn]
          clear hn
          go_enter Try.func50, Try.ntmps50
          go_wp2
          go_ret
          exact ⟨rfl, HW.out⟩
        · have b1 : (a0_0 == 8) = false := by simp [hn]
          have b2 : (a0_0 == 16) = false := by simp [hn]
          have b3 : (a0_0 == 32) = true := by simp [hn]
          clear hn
          go_enter Try.func50, Try.ntmps50
          go_wp2
          go_ret
          exact ⟨rfl, HW.out⟩
      · rw [if_neg h2] at h
        cases a0_3 with
        | false =>
          rw [if_neg (by decide)] at h
          obtain rfl := Option.some.inj h
          clear h
          rcases hn with hn | hn | hn
          · have b1 : (a0_0 == 8) = true := by simp [hn]
            clear hn
            go_enter Try.func50, Try.ntmps50
            go_wp2
            go_ret
            exact ⟨rfl, HW.out⟩
          · have b1 : (a0_0 == 8) = false := by simp [hn]
            have b2 : (a0_0 == 16) = true := by simp [hn]
            clear hn
            go_enter Try.func50, Try.ntmps50
            go_wp2
            go_ret
            exact ⟨rfl, HW.out⟩
          · have b1 : (a0_0 == 8) = false := by simp [hn]
            have b2 : (a0_0 == 16) = false := by simp [hn]
            have b3 : (a0_0 == 32) = true := by simp [hn]
            clear hn
            go_enter Try.func50, Try.ntmps50
            go_wp2
            go_ret
            exact ⟨rfl, HW.out⟩
        | true =>
          rw [if_pos rfl] at h
          have H := Lib.hid (show format_okF a0_0 (format_rest a0_4 a0_5 a0_6 a0_7 a0_8 a0_9 0) 0 = some r from h)
          have HG := Lib.hid (heap_alloc_new w (.cells #[.int .i64 a0_0, .int .i64 a0_1, .bool a0_2, .bool true, .int .i64 a0_4, .int .i64 a0_5, .int .i64 a0_6, .int .i64 a0_7, .int .i64 a0_8, .int .i64 a0_9] 37))
          clear h
          rcases hn with hn | hn | hn
          · have b1 : (a0_0 == 8) = true := by simp [hn]
            clear hn
            go_enter Try.func50, Try.ntmps50
            go_wp2_with fail
            refine (format_parts_c _ _ _ _ _ _ _ _ _ _ _).mono ?_
            rintro e w1 ⟨rfl, hb⟩
            have HB := Lib.hid (HW.out.trans (Below.mono hb (by simp)))
            have HG1 := Lib.hid ((hb.block w.heap.size (by simp)).trans HG.out)
            clear hb
            go_wp2_with fail
            go_loopw [3, 29] (fun m i wr => ∃ (k : Nat) (met : Int), k ≤ 3 ∧ i = .int .i64 k ∧ m = .int .i64 met ∧ Hid (format_okF a0_0 (format_rest a0_4 a0_5 a0_6 a0_7 a0_8 a0_9 k) met = some r) ∧ Hid (wr.heap[w.heap.size]? = some (.cells #[.int .i64 a0_0, .int .i64 a0_1, .bool a0_2, .bool true, .int .i64 a0_4, .int .i64 a0_5, .int .i64 a0_6, .int .i64 a0_7, .int .i64 a0_8, .int .i64 a0_9] 37 (0, 0))) ∧ Hid (Below w.heap.size w wr)) (fun _ i _ => 3 - (intOf i).toNat)
            case atStart => exact ⟨0, 0, by omega, rfl, rfl, H, HG1, HB⟩
            case round =>
              obtain ⟨k, met, hk, rfl, rfl, HO, HX, HY⟩ := hrel
              by_cases hk3 : k < 3
              · have q0 : wr.cell? ⟨w.heap.size, 0, none⟩ = some (.int .i64 a0_0) := by rw [World.cell?, HX.out]; rfl
                have hlt : w.heap.size < wr.heap.size := blk_lt HX.out
                have hix := fun wx => format_index a0_4 a0_5 a0_6 a0_7 a0_8 a0_9 k hk3 wx
                have ho := HO.out
                rw [format_rest_at _ _ _ _ _ _ k hk3] at ho
                obtain ⟨m, hm⟩ : ∃ m, (format_pm a0_4 a0_5 a0_6 a0_7 a0_8 a0_9 k).1 = m := ⟨_, rfl⟩
                obtain ⟨s, hs⟩ : ∃ s, (format_pm a0_4 a0_5 a0_6 a0_7 a0_8 a0_9 k).2 = s := ⟨_, rfl⟩
                simp only [hm, hs] at hix
                rw [hm, hs] at ho
                clear hm hs HO
                rcases format_okF_cons ho with ⟨hr, rfl⟩ | ⟨hr, q, hq, hcase⟩
                · have HR := Lib.hid hr
                  clear ho hr
                  go_wp2_with fail
                  refine (format_part_right.calls m s a0_0 false _ HR.out).mono ?_
                  rintro e w3 ⟨rfl, hb⟩
                  have HB3 := Lib.hid (HY.out.trans (Below.mono ((below_alloc (Below.refl wr.heap.size wr) (.cells #[.int .i64 m, .int .i64 s] 102)).trans (Below.mono hb (by simp))) HY.out.size))
                  clear hb hix
                  go_wp2_with fail
                  go_ret
                  exact ⟨rfl, HB3.out⟩
                · have HR := Lib.hid hr
                  have HQ := Lib.hid hq
                  clear ho hr hq
                  go_wp2_with fail
                  refine (format_part_right.calls m s a0_0 true _ HR.out).mono ?_
                  rintro e w3 ⟨rfl, hb⟩
                  have hB3 := (below_alloc (Below.refl wr.heap.size wr) (.cells #[.int .i64 m, .int .i64 s] 102)).trans (Below.mono hb (by simp))
                  have hP3 := (hb.block wr.heap.size (by simp)).trans (heap_alloc_new wr (.cells #[.int .i64 m, .int .i64 s] 102))
                  have p0 : w3.cell? ⟨wr.heap.size, 0, none⟩ = some (.int .i64 m) := by rw [World.cell?, hP3]; rfl
                  have p1 : w3.cell? ⟨wr.heap.size, 1, none⟩ = some (.int .i64 s) := by rw [World.cell?, hP3]; rfl
                  have HB3 := Lib.hid hB3
                  have HP3 := Lib.hid hP3
                  clear hb hB3 hP3 q0 hix
                  go_wp2_with fail
                  refine (format_part_mask.calls m s q _ HQ.out).mono ?_
                  rintro e w4 ⟨rfl, hb⟩
                  have hP4 := (hb.block wr.heap.size (blk_lt HP3.out)).trans HP3.out
                  have p0 : w4.cell? ⟨wr.heap.size, 0, none⟩ = some (.int .i64 m) := by rw [World.cell?, hP4]; rfl
                  have p1 : w4.cell? ⟨wr.heap.size, 1, none⟩ = some (.int .i64 s) := by rw [World.cell?, hP4]; rfl
                  have HB4 := Lib.hid (HB3.out.trans (Below.mono hb HB3.out.size))
                  clear hb hP4
                  rcases hcase with ⟨hne, rfl⟩ | ⟨he, hn⟩
                  · have n1 : (Go.bits .and .i64 met q == 0) = false := by simpa using hne
                    have n2 : (Go.bits .and .i64 met q != 0) = true := by simpa using hne
                    clear hne
                    go_wp2_with fail
                    go_ret
                    exact ⟨rfl, HY.out.trans (Below.mono HB4.out HY.out.size)⟩
                  · have HN := Lib.hid hn
                    have n1 : (Go.bits .and .i64 met q == 0) = true := by simpa using he
                    have n2 : (Go.bits .and .i64 met q != 0) = false := by simpa using he
                    clear he hn
                    go_wp2_with fail
                    refine (format_part_mask.calls m s q _ HQ.out).mono ?_
                    rintro e w5 ⟨rfl, hb⟩
                    have HB5 := Lib.hid (HB4.out.trans (Below.mono hb HB4.out.size))
                    clear hb n1 n2
                    go_wp2_with fail
                    go_roundw
                    case rel => exact ⟨k + 1, _, by omega, by go_num, rfl, HN, Lib.hid ((HB5.out.block _ hlt).trans HX.out), Lib.hid (HY.out.trans (Below.mono HB5.out HY.out.size))⟩
                    case measure => simp [intOf]; omega
              · obtain rfl : k = 3 := by omega
                have ho := HO.out
                obtain rfl : true = r := Option.some.inj ho
                clear ho HO
                go_wp2_with fail
                go_ret
                exact ⟨rfl, HY.out⟩
          · have b1 : (a0_0 == 8) = false := by simp [hn]
            have b2 : (a0_0 == 16) = true := by simp [hn]
            clear hn
            go_enter Try.func50, Try.ntmps50
            go_wp2_with fail
            refine (format_parts_c _ _ _ _ _ _ _ _ _ _ _).mono ?_
            rintro e w1 ⟨rfl, hb⟩
            have HB := Lib.hid (HW.out.trans (Below.mono hb (by simp)))
            have HG1 := Lib.hid ((hb.block w.heap.size (by simp)).trans HG.out)
            clear hb
            go_wp2_with fail
            go_loopw [3, 29] (fun m i wr => ∃ (k : Nat) (met : Int), k ≤ 3 ∧ i = .int .i64 k ∧ m = .int .i64 met ∧ Hid (format_okF a0_0 (format_rest a0_4 a0_5 a0_6 a0_7 a0_8 a0_9 k) met = some r) ∧ Hid (wr.heap[w.heap.size]? = some (.cells #[.int .i64 a0_0, .int .i64 a0_1, .bool a0_2, .bool true, .int .i64 a0_4, .int .i64 a0_5, .int .i64 a0_6, .int .i64 a0_7, .int .i64 a0_8, .int .i64 a0_9] 37 (0, 0))) ∧ Hid (Below w.heap.size w wr)) (fun _ i _ => 3 - (intOf i).toNat)
            case atStart => exact ⟨0, 0, by omega, rfl, rfl, H, HG1, HB⟩
            case round =>
              obtain ⟨k, met, hk, rfl, rfl, HO, HX, HY⟩ := hrel
              by_cases hk3 : k < 3
              · have q0 : wr.cell? ⟨w.heap.size, 0, none⟩ = some (.int .i64 a0_0) := by rw [World.cell?, HX.out]; rfl
                have hlt : w.heap.size < wr.heap.size := blk_lt HX.out
                have hix := fun wx => format_index a0_4 a0_5 a0_6 a0_7 a0_8 a0_9 k hk3 wx
                have ho := HO.out
                rw [format_rest_at _ _ _ _ _ _ k hk3] at ho
                obtain ⟨m, hm⟩ : ∃ m, (format_pm a0_4 a0_5 a0_6 a0_7 a0_8 a0_9 k).1 = m := ⟨_, rfl⟩
                obtain ⟨s, hs⟩ : ∃ s, (format_pm a0_4 a0_5 a0_6 a0_7 a0_8 a0_9 k).2 = s := ⟨_, rfl⟩
                simp only [hm, hs] at hix
                rw [hm, hs] at ho
                clear hm hs HO
                rcases format_okF_cons ho with ⟨hr, rfl⟩ | ⟨hr, q, hq, hcase⟩
                · have HR := Lib.hid hr
                  clear ho hr
                  go_wp2_with fail
                  refine (format_part_right.calls m s a0_0 false _ HR.out).mono ?_
                  rintro e w3 ⟨rfl, hb⟩
                  have HB3 := Lib.hid (HY.out.trans (Below.mono ((below_alloc (Below.refl wr.heap.size wr) (.cells #[.int .i64 m, .int .i64 s] 102)).trans (Below.mono hb (by simp))) HY.out.size))
                  clear hb hix
                  go_wp2_with fail
                  go_ret
                  exact ⟨rfl, HB3.out⟩
                · have HR := Lib.hid hr
                  have HQ := Lib.hid hq
                  clear ho hr hq
                  go_wp2_with fail
                  refine (format_part_right.calls m s a0_0 true _ HR.out).mono ?_
                  rintro e w3 ⟨rfl, hb⟩
                  have hB3 := (below_alloc (Below.refl wr.heap.size wr) (.cells #[.int .i64 m, .int .i64 s] 102)).trans (Below.mono hb (by simp))
                  have hP3 := (hb.block wr.heap.size (by simp)).trans (heap_alloc_new wr (.cells #[.int .i64 m, .int .i64 s] 102))
                  have p0 : w3.cell? ⟨wr.heap.size, 0, none⟩ = some (.int .i64 m) := by rw [World.cell?, hP3]; rfl
                  have p1 : w3.cell? ⟨wr.heap.size, 1, none⟩ = some (.int .i64 s) := by rw [World.cell?, hP3]; rfl
                  have HB3 := Lib.hid hB3
                  have HP3 := Lib.hid hP3
                  clear hb hB3 hP3 q0 hix
                  go_wp2_with fail
                  refine (format_part_mask.calls m s q _ HQ.out).mono ?_
                  rintro e w4 ⟨rfl, hb⟩
                  have hP4 := (hb.block wr.heap.size (blk_lt HP3.out)).trans HP3.out
                  have p0 : w4.cell? ⟨wr.heap.size, 0, none⟩ = some (.int .i64 m) := by rw [World.cell?, hP4]; rfl
                  have p1 : w4.cell? ⟨wr.heap.size, 1, none⟩ = some (.int .i64 s) := by rw [World.cell?, hP4]; rfl
                  have HB4 := Lib.hid (HB3.out.trans (Below.mono hb HB3.out.size))
                  clear hb hP4
                  rcases hcase with ⟨hne, rfl⟩ | ⟨he, hn⟩
                  · have n1 : (Go.bits .and .i64 met q == 0) = false := by simpa using hne
                    have n2 : (Go.bits .and .i64 met q != 0) = true := by simpa using hne
                    clear hne
                    go_wp2_with fail
                    go_ret
                    exact ⟨rfl, HY.out.trans (Below.mono HB4.out HY.out.size)⟩
                  · have HN := Lib.hid hn
                    have n1 : (Go.bits .and .i64 met q == 0) = true := by simpa using he
                    have n2 : (Go.bits .and .i64 met q != 0) = false := by simpa using he
                    clear he hn
                    go_wp2_with fail
                    refine (format_part_mask.calls m s q _ HQ.out).mono ?_
                    rintro e w5 ⟨rfl, hb⟩
                    have HB5 := Lib.hid (HB4.out.trans (Below.mono hb HB4.out.size))
                    clear hb n1 n2
                    go_wp2_with fail
                    go_roundw
                    case rel => exact ⟨k + 1, _, by omega, by go_num, rfl, HN, Lib.hid ((HB5.out.block _ hlt).trans HX.out), Lib.hid (HY.out.trans (Below.mono HB5.out HY.out.size))⟩
                    case measure => simp [intOf]; omega
              · obtain rfl : k = 3 := by omega
                have ho := HO.out
                obtain rfl : true = r := Option.some.inj ho
                clear ho HO
                go_wp2_with fail
                go_ret
                exact ⟨rfl, HY.out⟩
          · have b1 : (a0_0 == 8) = false := by simp [hn]
            have b2 : (a0_0 == 16) = false := by simp [hn]
            have b3 : (a0_0 == 32) = true := by simp [hn]
            clear hn
            go_enter Try.func50, Try.ntmps50
            go_wp2_with fail
            refine (format_parts_c _ _ _ _ _ _ _ _ _ _ _).mono ?_
            rintro e w1 ⟨rfl, hb⟩
            have HB := Lib.hid (HW.out.trans (Below.mono hb (by simp)))
            have HG1 := Lib.hid ((hb.block w.heap.size (by simp)).trans HG.out)
            clear hb
            go_wp2_with fail
            go_loopw [3, 29] (fun m i wr => ∃ (k : Nat) (met : Int), k ≤ 3 ∧ i = .int .i64 k ∧ m = .int .i64 met ∧ Hid (format_okF a0_0 (format_rest a0_4 a0_5 a0_6 a0_7 a0_8 a0_9 k) met = some r) ∧ Hid (wr.heap[w.heap.size]? = some (.cells #[.int .i64 a0_0, .int .i64 a0_1, .bool a0_2, .bool true, .int .i64 a0_4, .int .i64 a0_5, .int .i64 a0_6, .int .i64 a0_7, .int .i64 a0_8, .int .i64 a0_9] 37 (0, 0))) ∧ Hid (Below w.heap.size w wr)) (fun _ i _ => 3 - (intOf i).toNat)
            case atStart => exact ⟨0, 0, by omega, rfl, rfl, H, HG1, HB⟩
            case round =>
              obtain ⟨k, met, hk, rfl, rfl, HO, HX, HY⟩ := hrel
              by_cases hk3 : k < 3
              · have q0 : wr.cell? ⟨w.heap.size, 0, none⟩ = some (.int .i64 a0_0) := by rw [World.cell?, HX.out]; rfl
                have hlt : w.heap.size < wr.heap.size := blk_lt HX.out
                have hix := fun wx => format_index a0_4 a0_5 a0_6 a0_7 a0_8 a0_9 k hk3 wx
                have ho := HO.out
                rw [format_rest_at _ _ _ _ _ _ k hk3] at ho
                obtain ⟨m, hm⟩ : ∃ m, (format_pm a0_4 a0_5 a0_6 a0_7 a0_8 a0_9 k).1 = m := ⟨_, rfl⟩
                obtain ⟨s, hs⟩ : ∃ s, (format_pm a0_4 a0_5 a0_6 a0_7 a0_8 a0_9 k).2 = s := ⟨_, rfl⟩
                simp only [hm, hs] at hix
                rw [hm, hs] at ho
                clear hm hs HO
                rcases format_okF_cons ho with ⟨hr, rfl⟩ | ⟨hr, q, hq, hcase⟩
                · have HR := Lib.hid hr
                  clear ho hr
                  go_wp2_with fail
                  refine (format_part_right.calls m s a0_0 false _ HR.out).mono ?_
                  rintro e w3 ⟨rfl, hb⟩
                  have HB3 := Lib.hid (HY.out.trans (Below.mono ((below_alloc (Below.refl wr.heap.size wr) (.cells #[.int .i64 m, .int .i64 s] 102)).trans (Below.mono hb (by simp))) HY.out.size))
                  clear hb hix
                  go_wp2_with fail
                  go_ret
                  exact ⟨rfl, HB3.out⟩
                · have HR := Lib.hid hr
                  have HQ := Lib.hid hq
                  clear ho hr hq
                  go_wp2_with fail
                  refine (format_part_right.calls m s a0_0 true _ HR.out).mono ?_
                  rintro e w3 ⟨rfl, hb⟩
                  have hB3 := (below_alloc (Below.refl wr.heap.size wr) (.cells #[.int .i64 m, .int .i64 s] 102)).trans (Below.mono hb (by simp))
                  have hP3 := (hb.block wr.heap.size (by simp)).trans (heap_alloc_new wr (.cells #[.int .i64 m, .int .i64 s] 102))
                  have p0 : w3.cell? ⟨wr.heap.size, 0, none⟩ = some (.int .i64 m) := by rw [World.cell?, hP3]; rfl
                  have p1 : w3.cell? ⟨wr.heap.size, 1, none⟩ = some (.int .i64 s) := by rw [World.cell?, hP3]; rfl
                  have HB3 := Lib.hid hB3
                  have HP3 := Lib.hid hP3
                  clear hb hB3 hP3 q0 hix
                  go_wp2_with fail
                  refine (format_part_mask.calls m s q _ HQ.out).mono ?_
                  rintro e w4 ⟨rfl, hb⟩
                  have hP4 := (hb.block wr.heap.size (blk_lt HP3.out)).trans HP3.out
                  have p0 : w4.cell? ⟨wr.heap.size, 0, none⟩ = some (.int .i64 m) := by rw [World.cell?, hP4]; rfl
                  have p1 : w4.cell? ⟨wr.heap.size, 1, none⟩ = some (.int .i64 s) := by rw [World.cell?, hP4]; rfl
                  have HB4 := Lib.hid (HB3.out.trans (Below.mono hb HB3.out.size))
                  clear hb hP4
                  rcases hcase with ⟨hne, rfl⟩ | ⟨he, hn⟩
                  · have n1 : (Go.bits .and .i64 met q == 0) = false := by simpa using hne
                    have n2 : (Go.bits .and .i64 met q != 0) = true := by simpa using hne
                    clear hne
                    go_wp2_with fail
                    go_ret
                    exact ⟨rfl, HY.out.trans (Below.mono HB4.out HY.out.size)⟩
                  · have HN := Lib.hid hn
                    have n1 : (Go.bits .and .i64 met q == 0) = true := by simpa using he
                    have n2 : (Go.bits .and .i64 met q != 0) = false := by simpa using he
                    clear he hn
                    go_wp2_with fail
                    refine (format_part_mask.calls m s q _ HQ.out).mono ?_
                    rintro e w5 ⟨rfl, hb⟩
                    have HB5 := Lib.hid (HB4.out.trans (Below.mono hb HB4.out.size))
                    clear hb n1 n2
                    go_wp2_with fail
                    go_roundw
                    case rel => exact ⟨k + 1, _, by omega, by go_num, rfl, HN, Lib.hid ((HB5.out.block _ hlt).trans HX.out), Lib.hid (HY.out.trans (Below.mono HB5.out HY.out.size))⟩
                    case measure => simp [intOf]; omega
              · obtain rfl : k = 3 := by omega
                have ho := HO.out
                obtain rfl : true = r := Option.some.inj ho
                clear ho HO
                go_wp2_with fail
                go_ret
                exact ⟨rfl, HY.out⟩
  · rw [if_neg hn] at h
    obtain rfl := Option.some.inj h
    have b1 : (a0_0 == 8) = false := by simp; omega
    have b2 : (a0_0 == 16) = false := by simp; omega
    have b3 : (a0_0 == 32) = false := by simp; omega
    clear h hn
    go_enter Try.func50, Try.ntmps50
    go_wp2
    go_ret
    exact ⟨rfl, HW.out⟩

end Go.Proofs.Ytkmfhfejogjnfaa.X
