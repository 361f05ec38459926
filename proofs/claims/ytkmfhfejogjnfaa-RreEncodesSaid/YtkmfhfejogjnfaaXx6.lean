/- What each Go function that these laws use answers: as a Lean function, with the proof that the machine's call comes to it. Written by a program of this session (xprint.py). -/
import Derived.Test.YtkmfhfejogjnfaaXx0
namespace Go.Proofs.Ytkmfhfejogjnfaa.X
open Go.RowKit Go.Proofs.YtkmfhfejogjnfaaW.PrintWords Go.Proofs.YtkmfhfejogjnfaaW.PrintLast Go.Proofs.YtkmfhfejogjnfaaW.PrintMore
attribute [local go_sem] max2_int min2_int max_two min_two max_three min_three max_four min_four   -- for this text's walks alone
set_option linter.unusedVariables false
set_option linter.unusedSimpArgs false

/-! ### rre_Ground: function 12 -/
section
open Go.Maps Go.Proofs.Ytkmfhfejogjnfaa
def wfL (l : List Int) : Bool := l.all fun v => (Lit.int .i64 v).wf
def rre_Ground.f (l0 : List Int) : Option Int := if l0.length ≤ 1000000 ∧ wfL l0 = true then some (RR.groundP l0) else none
theorem mlaw : Keyed Try.prog 3 := int_keyed Try.underlying3
theorem mzero (w : World) : (zeroValue 3).run Try.prog w = .ok (.int .i64 0) w := by kernel_rfl
/-- D holds how often each number comes. -/
def Cnt (D : DataW Unit) (l : List Int) : Prop := IsMap D ∧ ∀ v, D.atKey (.int .i64 v) (.lit (.int .i64 0)) = .lit (.int .i64 (l.count v))
theorem Cnt.nil : Cnt (.map []) [] := ⟨isMap_empty, fun v => rfl⟩
theorem Cnt.step {D : DataW Unit} {l : List Int} (h : Cnt D l) (v : Int) : Cnt (D.put (.int .i64 v) (.lit (.int .i64 ((l.count v : Int) + 1)))) (l ++ [v]) := by
  refine ⟨h.1.put _ _, fun u => ?_⟩
  by_cases hu : u = v
  · subst hu
    rw [atKey_put_same h.1 (by trivial)]
    simp
  · rw [atKey_put_other (by intro e; injection e with _ e; exact hu e), h.2 u]
    congr 2
    rw [List.count_append, List.count_singleton]
    simp [Ne.symm hu, hu]
theorem wfL_at {l : List Int} (h : wfL l = true) : ∀ v ∈ l, (Lit.int .i64 v).wf = true := fun v hv => List.all_eq_true.1 h v hv
def gstep (l : List Int) (b v : Int) : Int := if RR.Better (fun z => l.count z) v b then v else b
theorem gfold_mem (l : List Int) : ∀ (m : List Int) (b : Int), m.foldl (gstep l) b = b ∨ m.foldl (gstep l) b ∈ m
  | [], b => .inl rfl
  | v :: m, b => by
    rw [List.foldl_cons]
    rcases gfold_mem l m (gstep l b v) with h | h
    · rw [h]; unfold gstep; split
      · exact .inr List.mem_cons_self
      · exact .inl rfl
    · exact .inr (List.mem_cons_of_mem _ h)
set_option maxHeartbeats 4000000 in
set_option maxRecDepth 100000 in
theorem rre_Ground.calls (A0 : Option Addr) (c0 : Nat) (l0 : List Int) (r : Int) (w : World) (hr0 : Kd.C (Kd.int .i64) w A0 l0.length l0) (hc0 : l0.length ≤ c0) (h : rre_Ground.f l0 = some r) :
    Calls Try.prog 12 #[.slice A0 l0.length c0] w fun e w' => e = .returned (.int .i64 r) ∧ Below w.heap.size w w' := by
  unfold rre_Ground.f at h
  split at h
  · cases h
    rename_i hp
    obtain ⟨hlen, hwf⟩ := hp
    obtain ⟨n, hn⟩ : ∃ n, l0.length = n := ⟨_, rfl⟩
    have HR := Lib.hid hr0
    have HW := Lib.hid (wfL_at hwf)
    have HN := Lib.hid hn
    have HL : Hid (n ≤ 1000000) := Lib.hid (by omega)
    rw [hn]
    clear hr0 hwf hc0 hlen hn
    have hmm := @run_makeMap Try.prog
    go_enter Try.func12, Try.ntmps12
    go_wp2
    go_loopw [12] (fun i wr => ∃ (k : Nat) (D : DataW Unit) (m : Nat), k ≤ n ∧ i = .int .i64 k ∧ m ≤ k ∧ Hid (Cnt D (l0.take k)) ∧ wr.ownsMap Try.prog 3 (plainElem Try.prog 3) w.heap.size m D ∧ Hid (Below w.heap.size w wr)) (fun i _ => n - (intOf i).toNat)
    case atStart => exact ⟨0, _, 0, Nat.zero_le _, rfl, Nat.le_refl _, Lib.hid Cnt.nil, World.ownsMap_made _ _ _ _, Lib.hid ((Below.refl _ _).alloc (Nat.le_refl _) _)⟩
    case round =>
      obtain ⟨k, D, m, hk, rfl, hmk, HD, hown, HB⟩ := hrel
      by_cases hlt : k < n
      · have d0 : decide ((k : Int) < (n : Int)) = true := decide_eq_true (by omega)
        have hkl : k < l0.length := by have := HN.out; omega
        obtain ⟨ad, ea, hx⟩ := Kd.at_int (Kd.C_below HR.out HB.out) (k : Int) (by omega) (by omega)
        rw [Int.toNat_natCast] at hx
        have hv : rd l0 (k : Int) = l0[k] := by unfold rd; rw [Int.toNat_natCast, List.getD_eq_getElem?_getD, List.getElem?_eq_getElem hkl]; rfl
        obtain ⟨v, ev⟩ : ∃ v, l0[k] = v := ⟨_, rfl⟩
        rw [hv, ev] at hx
        have hvw := HW.out v (by rw [← ev]; exact List.getElem_mem _)
        have hkey : keyOf Try.prog 3 (.int .i64 v) = some (.int .i64 v) := keyOf_int_mk Try.underlying3 hvw
        have htk : l0.take (k + 1) = l0.take k ++ [v] := by rw [List.take_add_one, List.getElem?_eq_getElem hkl, ev]; rfl
        have HTK := Lib.hid htk
        subst ea
        obtain ⟨c, hrun, hat, hwc⟩ := hown.lookup_int mlaw Try.underlying61 Try.underlying3 (mzero _) hkey
        rw [HD.out.2 v] at hat
        injection hat with hat
        injection hat with _ hat
        subst hat
        obtain ⟨q, hq⟩ : ∃ q, (l0.take k).count v = q := ⟨_, rfl⟩
        have hq9 : q ≤ k := by rw [← hq]; have := List.count_le_length (a := v) (l := l0.take k); rw [List.length_take] at this; omega
        have hst := Cnt.step HD.out v
        rw [hq] at hst hrun
        have HST := Lib.hid hst
        have hk9 : k ≤ 1000000 := by have := HL.out; omega
        have wq : wrap64 ((q : Int) + 1) = (q : Int) + 1 := by unfold wrap64; omega
        have hvq := plainElem_int (H := Unit) Try.underlying3 (a := (q : Int) + 1) (by rw [← wq]; exact wrap64_wf _)
        clear hst hv ev hq
        have p0 : (0 : Int) ≤ (k : Int) := by omega
        have p1 : (k : Int) < (n : Int) := by omega
        have hmx : m < maxLen := by unfold maxLen; omega
        go_wp2_with (first
          | (at_mapUpdate; refine wpList_mapUpdate_own _ rfl _ _ _ 61 rfl 3 3 mlaw Try.underlying61 _ w.heap.size m D rfl hown hmx _ _ _ rfl rfl hkey _ [] hvq ?_; intro w1 hown1 hgrow1))
        go_roundw
        case rel => exact ⟨k + 1, _, m + 1, by omega, by push_cast; rfl, by omega, Lib.hid (by rw [HTK.out]; exact HST.out), hown1, Lib.hid (HB.out.grown hgrow1 HB.out.size (fun j hj => by cases hj; exact Nat.le_refl _))⟩
        case measure => simp [intOf]; omega
      · have d0 : decide ((k : Int) < (n : Int)) = false := decide_eq_false (by omega)
        have hkn : n = k := by omega
        subst hkn
        rw [List.take_of_length_le (by have := HN.out; omega)] at HD
        go_wp2
        go_loopw [4, 23] (fun b i w' => ∃ (k : Nat), k ≤ n ∧ i = .int .i64 k ∧ b = .int .i64 ((l0.take k).foldl (gstep l0) 0) ∧ w' = wr) (fun _ i _ => n - (intOf i).toNat)
        case atStart => exact ⟨0, Nat.zero_le _, rfl, rfl, rfl⟩
        case round =>
          obtain ⟨k, hk, rfl, rfl, rfl⟩ := hrel
          by_cases hlt2 : k < n
          · have d1 : decide ((k : Int) < (n : Int)) = true := decide_eq_true (by omega)
            have hkl : k < l0.length := by have := HN.out; omega
            obtain ⟨ad, ea, hx⟩ := Kd.at_int (Kd.C_below HR.out HB.out) (k : Int) (by omega) (by omega)
            rw [Int.toNat_natCast] at hx
            have hv : rd l0 (k : Int) = l0[k] := by unfold rd; rw [Int.toNat_natCast, List.getD_eq_getElem?_getD, List.getElem?_eq_getElem hkl]; rfl
            obtain ⟨v, ev⟩ : ∃ v, l0[k] = v := ⟨_, rfl⟩
            rw [hv, ev] at hx
            have hvw := HW.out v (by rw [← ev]; exact List.getElem_mem _)
            have htk : l0.take (k + 1) = l0.take k ++ [v] := by rw [List.take_add_one, List.getElem?_eq_getElem hkl, ev]; rfl
            have hst : (l0.take (k + 1)).foldl (gstep l0) 0 = gstep l0 ((l0.take k).foldl (gstep l0) 0) v := by rw [htk, List.foldl_append]; rfl
            have hbm := gfold_mem l0 (l0.take k) 0
            obtain ⟨b, hb⟩ : ∃ b, (l0.take k).foldl (gstep l0) 0 = b := ⟨_, rfl⟩
            rw [hb] at hst hbm ⊢
            have hbw : (Lit.int .i64 b).wf = true := by
              rcases hbm with h | h
              · rw [h]; decide
              · exact HW.out b (List.mem_of_mem_take h)
            have HST := Lib.hid hst
            subst ea
            obtain ⟨c, hrun, hat, _⟩ := hown.lookup_int mlaw Try.underlying61 Try.underlying3 (mzero _) (keyOf_int_mk Try.underlying3 hvw)
            obtain ⟨c', hrun', hat', _⟩ := hown.lookup_int mlaw Try.underlying61 Try.underlying3 (mzero _) (keyOf_int_mk Try.underlying3 hbw)
            rw [HD.out.2 v] at hat
            rw [HD.out.2 b] at hat'
            injection hat with hat
            injection hat with _ hat
            injection hat' with hat'
            injection hat' with _ hat'
            subst hat hat'
            have p0 : (0 : Int) ≤ (k : Int) := by omega
            have p1 : (k : Int) < (n : Int) := by omega
            have w1 : wrap64 ((k : Int) + 1) = (k : Int) + 1 := by have := HL.out; unfold wrap64; omega
            have hbd : RR.Better (fun z => l0.count z) v b ↔ ((l0.count b : Int) < (l0.count v : Int) ∨ (l0.count v : Int) = (l0.count b : Int) ∧ v < b) := by unfold RR.Better; simp only; omega
            obtain ⟨cv, hcv⟩ : ∃ cv : Int, (l0.count v : Int) = cv := ⟨_, rfl⟩
            obtain ⟨cb, hcb⟩ : ∃ cb : Int, (l0.count b : Int) = cb := ⟨_, rfl⟩
            rw [hcv, hcb] at hbd
            rw [hcv] at hrun
            rw [hcb] at hrun'
            have HBD := Lib.hid hbd; have HOWN := Lib.hid hown
            clear hbd hcv hcb hst hbm hb htk hv ev hown hmm hvw hbw
            by_cases c1 : cb < cv
            · have e1 : decide (cb < cv) = true := decide_eq_true c1
              have HC := Lib.hid c1; clear c1
              as_aux_lemma =>
                go_wp2
                go_roundw
                case rel => exact ⟨k + 1, by omega, by rw [w1]; push_cast; rfl, by rw [HST.out]; unfold gstep; rw [if_pos (HBD.out.2 (.inl HC.out))], (by first | rfl | trivial)⟩
                case measure => rw [w1]; simp [intOf]; omega
            · have e1 : decide (cb < cv) = false := decide_eq_false c1
              have HC := Lib.hid c1; clear c1
              by_cases c2 : cv = cb
              · have e2 : decide (cv = cb) = true := decide_eq_true c2
                have HC2 := Lib.hid c2
                subst c2
                by_cases c3 : v < b
                · have e3 : decide (v < b) = true := decide_eq_true c3
                  have HC3 := Lib.hid c3; clear c3
                  as_aux_lemma =>
                    go_wp2
                    go_roundw
                    case rel => exact ⟨k + 1, by omega, by rw [w1]; push_cast; rfl, by rw [HST.out]; unfold gstep; rw [if_pos (HBD.out.2 (.inr ⟨rfl, HC3.out⟩))], (by first | rfl | trivial)⟩
                    case measure => rw [w1]; simp [intOf]; omega
                · have e3 : decide (v < b) = false := decide_eq_false c3
                  have HC3 := Lib.hid c3; clear c3
                  as_aux_lemma =>
                    go_wp2
                    go_roundw
                    case rel => exact ⟨k + 1, by omega, by rw [w1]; push_cast; rfl, by rw [HST.out]; unfold gstep; rw [if_neg (fun h => (HBD.out.1 h).elim HC.out (fun h => HC3.out h.2))], (by first | rfl | trivial)⟩
                    case measure => rw [w1]; simp [intOf]; omega
              · have e2 : decide (cv = cb) = false := decide_eq_false c2
                have e4 : (cv == cb) = false := by simpa using c2
                as_aux_lemma =>
                  go_wp2
                  go_roundw
                  case rel => exact ⟨k + 1, by omega, by rw [w1]; push_cast; rfl, by rw [HST.out]; unfold gstep; rw [if_neg (fun h => (HBD.out.1 h).elim HC.out (fun h => c2 h.1))], (by first | rfl | trivial)⟩
                  case measure => rw [w1]; simp [intOf]; omega
          · have d1 : decide ((k : Int) < (n : Int)) = false := decide_eq_false (by omega)
            have hkn : n = k := by omega
            subst hkn
            rw [List.take_of_length_le (by have := HN.out; omega)]
            go_wp2
            go_ret
            exact ⟨rfl, HB.out⟩
  · cases h
end

-- NOT PRINTED: function 67 (format_parts)

/-! ### bits_Len32: function 89 -/
def bits_Len32.f (a0 : Int) : Option Int := if 0 ≤ a0 ∧ a0 ≤ 4294967295 then some (Lib.bitLen a0.toNat : Int) else none
theorem bits_Len32.calls (a0 : Int) (r : Int) (w : World) (h : bits_Len32.f a0 = some r) :
    Calls Try.prog 89 #[.int .u32 a0] w fun e w' => e = .returned (.int .i64 r) ∧ Drawn0 w w' := by
  unfold bits_Len32.f at h
  split at h
  case isFalse => exact absurd h (by simp)
  case isTrue hs =>
  obtain rfl := Option.some.inj h
  refine (Try.bits_Len32 a0 w hs.1 hs.2).mono ?_
  rintro e w' ⟨rfl, rfl⟩
  exact ⟨rfl, ⟨0, rfl⟩⟩

/-! ### bits_Len64: function 90 -/
def bits_Len64.f (a0 : Int) : Option Int := if 0 ≤ a0 ∧ a0 ≤ 18446744073709551615 then some (Lib.bitLen a0.toNat : Int) else none
theorem bits_Len64.calls (a0 : Int) (r : Int) (w : World) (h : bits_Len64.f a0 = some r) :
    Calls Try.prog 90 #[.int .u64 a0] w fun e w' => e = .returned (.int .i64 r) ∧ Drawn0 w w' := by
  unfold bits_Len64.f at h
  split at h
  case isFalse => exact absurd h (by simp)
  case isTrue hs =>
  obtain rfl := Option.some.inj h
  refine (Try.bits_Len64 a0 w hs.1 hs.2).mono ?_
  rintro e w' ⟨rfl, rfl⟩
  exact ⟨rfl, ⟨0, rfl⟩⟩

/-! ### bits_Len: function 88 -/
def bits_Len.f (a0 : Int) : Option Int := if 0 ≤ a0 ∧ a0 ≤ 18446744073709551615 then some (Lib.bitLen a0.toNat : Int) else none
theorem bits_Len.calls (a0 : Int) (r : Int) (w : World) (h : bits_Len.f a0 = some r) :
    Calls Try.prog 88 #[.int .u64 a0] w fun e w' => e = .returned (.int .i64 r) ∧ Drawn0 w w' := by
  unfold bits_Len.f at h
  split at h
  case isFalse => exact absurd h (by simp)
  case isTrue hs =>
  obtain rfl := Option.some.inj h
  refine (Try.bits_Len a0 w hs.1 hs.2).mono ?_
  rintro e w' ⟨rfl, rfl⟩
  exact ⟨rfl, ⟨0, rfl⟩⟩

end Go.Proofs.Ytkmfhfejogjnfaa.X
