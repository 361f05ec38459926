/- The law RegionShifts: the walk, out of the print's contract, and its plain law. No condition. -/
-- OPEN 0 Go.Proofs.Ytkobiblgbpnlaaa.RQ.open_rects fa fb fc : ga gb
import Derived.Test.YtkobiblgbpnlaaaRS
import Derived.Test.YtkobiblgbpnlaaaRQ
import Derived.Test.YtkobiblgbpnlaaaXx34
namespace Go.Proofs.Ytkobiblgbpnlaaa.RT
open Go.Proofs.Ytkobiblgbpnlaaa Go.Proofs.Ytkobiblgbpnlaaa.X Go.RowKit Go.Proofs.YtkobiblgbpnlaaaW.PrintWords Go.Proofs.YtkobiblgbpnlaaaW.PrintLast Go.Proofs.YtkobiblgbpnlaaaW.PrintMore
set_option linter.unusedVariables false
set_option linter.unusedSimpArgs false
def insideS (r : SR) : Prop := -100000 ≤ r.f0 ∧ r.f0 ≤ 100000 ∧ -100000 ≤ r.f1 ∧ r.f1 ≤ 100000 ∧ r.f2 ≤ 100000 ∧ r.f3 ≤ 100000
theorem hull (a : List SR) (ha : ∀ r ∈ a, insideS r) (x y : Int) (h : RG.has (a.map tr) x y = true) : -100000 ≤ x ∧ x < 200000 ∧ -100000 ≤ y ∧ y < 200000 := by
  obtain ⟨r, hr, hc, h1, h2, h3, h4⟩ := (RG.has_iff _ _ _).1 h
  obtain ⟨q, hq, rfl⟩ := List.mem_map.1 hr
  obtain ⟨g0, g1, g2, g3, g4, g5⟩ := ha q hq
  have h1 : q.f1 ≤ y := h1
  have h2 : y < q.f1 + q.f3 := h2
  have h3 : q.f0 ≤ x := h3
  have h4 : x < q.f0 + q.f2 := h4
  omega
theorem hull_reg (a : List SR) (ha : ∀ r ∈ a, insideS r) : ∀ r ∈ combS keepMake a [], -100000 ≤ r.f0 ∧ r.f0 + r.f2 ≤ 200000 ∧ -100000 ≤ r.f1 ∧ r.f1 + r.f3 ≤ 200000 ∧ cntS r = true := fun r hr => by
  have hreg := reg_make a
  have hc := hreg.counts _ (List.mem_map_of_mem (f := tr) hr)
  have hcx := (cntS_iff r).1 (by rw [← cnt_tr]; exact hc)
  have p1 : RG.has ((combS keepMake a []).map tr) r.f0 r.f1 = true := (RG.has_iff _ _ _).2 ⟨tr r, List.mem_map_of_mem hr, hc, Int.le_refl _, by show r.f1 < r.f1 + r.f3; omega, Int.le_refl _, by show r.f0 < r.f0 + r.f2; omega⟩
  have p2 : RG.has ((combS keepMake a []).map tr) (r.f0 + r.f2 - 1) (r.f1 + r.f3 - 1) = true := (RG.has_iff _ _ _).2 ⟨tr r, List.mem_map_of_mem hr, hc, by show r.f1 ≤ r.f1 + r.f3 - 1; omega, by show r.f1 + r.f3 - 1 < r.f1 + r.f3; omega, by show r.f0 ≤ r.f0 + r.f2 - 1; omega, by show r.f0 + r.f2 - 1 < r.f0 + r.f2; omega⟩
  rw [has_make] at p1 p2
  have g1 := hull a ha _ _ p1
  have g2 := hull a ha _ _ p2
  refine ⟨by omega, by omega, by omega, by omega, by rw [← cnt_tr]; exact hc⟩
theorem shifts_main (k : Nat) (hk : 200000000 ≤ k) (a : List SR) (la : a.length ≤ 12) (ha : ∀ r ∈ a, insideS r) (dx dy x y : Int) (hdx : -100000 ≤ dx ∧ dx ≤ 100000) (hdy : -100000 ≤ dy ∧ dy ≤ 100000) (hx : -100000 ≤ x ∧ x ≤ 100000) (hy : -100000 ≤ y ∧ y ≤ 100000) :
    ((region_Shift.f (k + 1) a dx dy).bind fun t547 => ((region_Shift.f (k + 1) t547 (wrap64 (-dx)) (wrap64 (-dy))).bind fun t550 => ((region_Make.f a).bind fun t553 => ((miradorref15_Same.f (k + 1) t550 t553).bind fun t556 => (if true = true then (if t556 = true then ((region_Has.f (k + 1) t547 (wrap64 (x + dx)) (wrap64 (y + dy))).bind fun t557 => ((region_Has.f (k + 1) a x y).bind fun t558 => (if (t557 == t558) = true then ((region_Area.f (k + 1) t547).bind fun t559 => ((region_Area.f (k + 1) a).bind fun t560 => (some (t559 == t560)))) else (some false)))) else (some false)) else (some false)))))) = some true := by
  obtain ⟨l, hl⟩ : ∃ l, combS keepMake a [] = l := ⟨_, rfl⟩
  have hh := hull_reg a ha
  have hreg := reg_make a
  have ll := comb_len keepMake a [] 12 (by simpa using la)
  have hc : ∀ r ∈ combS keepMake a [], cntS (shS dx dy r) = true := fun r hr => by
    obtain ⟨g1, g2, g3, g4, g5⟩ := hh r hr
    have g6 := (cntS_iff r).1 g5
    exact (cntS_iff _).2 ⟨⟨by show _ ≤ r.f0 + dx; omega, by show r.f0 + dx ≤ _; omega, g6.1.2.2.1, g6.1.2.2.2.1, by show r.f0 + dx + r.f2 ≤ _; omega⟩, ⟨by show _ ≤ r.f1 + dy; omega, by show r.f1 + dy ≤ _; omega, g6.2.2.2.1, g6.2.2.2.2.1, by show r.f1 + dy + r.f3 ≤ _; omega⟩⟩
  have hM := shift_reg a dx dy hc
  have hb : ((combS keepMake a []).map (shS dx dy)).map (shS (-dx) (-dy)) = combS keepMake a [] := by
    rw [List.map_map]
    refine (List.map_congr_left (g := id) fun r _ => ?_).trans (List.map_id _)
    obtain ⟨r0, r1, r2, r3⟩ := r
    show (⟨r0 + dx + -dx, r1 + dy + -dy, r2, r3⟩ : SR) = ⟨r0, r1, r2, r3⟩
    rw [Int.add_neg_cancel_right, Int.add_neg_cancel_right]
  rw [hl] at hM hb hreg ll
  have lm : (l.map (shS dx dy)).length ≤ 576 := by rw [List.length_map]; omega
  have eM := make_reg hM
  have eL := make_reg hreg
  rw [shift_f k (by omega) a (by omega) dx dy (by omega) (by omega), hl, make_f _ (by omega), eM, Option.bind_some, Option.bind_some]
  rw [wrap_id (x := -dx) (by omega) (by omega), wrap_id (x := -dy) (by omega) (by omega), wrap_id (x := x + dx) (by omega) (by omega), wrap_id (x := y + dy) (by omega) (by omega)]
  rw [shift_f k (by omega) _ (by omega) (-dx) (-dy) (by omega) (by omega), eM, hb, make_f l (by omega), eL, Option.bind_some, Option.bind_some, make_f a (by omega), hl, Option.bind_some, same_f _ _ _ rfl (by omega) (by omega), Option.bind_some, if_pos rfl, if_pos rfl]
  rw [has_f _ _ _ _ (by omega) (by omega), Option.bind_some, has_f _ _ _ _ (by omega) (by omega), Option.bind_some]
  rw [hM.has, Int.add_sub_cancel, Int.add_sub_cancel, if_pos (by simp), area_f _ _ (by omega) (by omega), Option.bind_some, area_f _ _ (by omega) (by omega), Option.bind_some]
  have h1 := (reg_make (l.map (shS dx dy))).area
  rw [eM, sh_tr, RG.area_shift] at h1
  have h2 := hreg.area
  rw [sh_tr, ← h1, h2]
  simp
theorem shifts_l0 (a : List SR) (la : a.length ≤ 12) (dx dy x y : Int) (hdx : -100000 ≤ dx ∧ dx ≤ 100000) (hdy : -100000 ≤ dy ∧ dy ≤ 100000) (hx : -100000 ≤ x ∧ x ≤ 100000) (hy : -100000 ≤ y ∧ y ≤ 100000) : ∀ (m k i : Nat), i + m = a.length → 200000002 + m ≤ k → (∀ r ∈ a.take i, insideS r) →
    miradorlaw15_RegionShifts.l0 k a dx dy x y true (i : Int) = some true := by
  intro m
  induction m with
  | zero =>
    intro k i h hk hin
    obtain ⟨k, rfl⟩ : ∃ q, k = q + 2 := ⟨k - 2, by omega⟩
    rw [List.take_of_length_le (by omega)] at hin
    rw [miradorlaw15_RegionShifts.l0, if_neg (by omega)]
    exact shifts_main k (by omega) a la hin dx dy x y hdx hdy hx hy
  | succ m ih =>
    intro k i h hk hin
    obtain ⟨k, rfl⟩ : ∃ q, k = q + 1 := ⟨k - 1, by omega⟩
    have hlt : i < a.length := by omega
    rw [miradorlaw15_RegionShifts.l0, if_pos (by omega), if_pos (by omega), rd26_at a i hlt, wrap_next i (by omega)]
    by_cases c1 : a[i].f0 > 100000
    · rw [if_pos c1]
    rw [if_neg c1]
    by_cases c2 : a[i].f0 < -100000
    · rw [if_pos c2]
    rw [if_neg c2]
    by_cases c3 : a[i].f1 > 100000
    · rw [if_pos c3]
    rw [if_neg c3]
    by_cases c4 : a[i].f1 < -100000
    · rw [if_pos c4]
    rw [if_neg c4]
    by_cases c5 : a[i].f2 > 100000
    · rw [if_pos c5]
    rw [if_neg c5]
    by_cases c6 : a[i].f3 > 100000
    · rw [if_pos c6]
    rw [if_neg c6]
    refine ih k (i + 1) (by omega) (by omega) (fun r hr => ?_)
    rw [List.take_add_one, List.getElem?_eq_getElem hlt] at hr
    rcases List.mem_append.1 hr with h | h
    · exact hin r h
    · simp at h
      subst h
      exact ⟨by omega, by omega, by omega, by omega, by omega, by omega⟩
theorem shifts_pure (k : Nat) (hk : 200000000 ≤ k) (a : List SR) (dx dy x y : Int) : miradorlaw15_RegionShifts.f (k + 20) a dx dy x y = some true := by
  have hj : miradorlaw15_RegionShifts.j0 (k + 20) a dx dy x y true true = some true := by rw [miradorlaw15_RegionShifts.j0, if_pos rfl]
  unfold miradorlaw15_RegionShifts.f
  rw [works_f _ (by omega), Option.bind_some, if_pos rfl, hj]
  by_cases c0 : (a.length : Int) > 12
  · rw [if_pos c0]
  rw [if_neg c0]
  by_cases c1 : dx > 100000
  · rw [if_pos c1]
  rw [if_neg c1]
  by_cases c2 : dx < -100000
  · rw [if_pos c2]
  rw [if_neg c2]
  by_cases c3 : dy > 100000
  · rw [if_pos c3]
  rw [if_neg c3]
  by_cases c4 : dy < -100000
  · rw [if_pos c4]
  rw [if_neg c4]
  by_cases c5 : x > 100000
  · rw [if_pos c5]
  rw [if_neg c5]
  by_cases c6 : x < -100000
  · rw [if_pos c6]
  rw [if_neg c6]
  by_cases c7 : y > 100000
  · rw [if_pos c7]
  rw [if_neg c7]
  by_cases c8 : y < -100000
  · rw [decide_eq_true c8, hj]
  rw [decide_eq_false c8, miradorlaw15_RegionShifts.j0, if_neg (by decide)]
  exact shifts_l0 a (by omega) dx dy x y (by omega) (by omega) (by omega) (by omega) a.length (k + 19) 0 (by omega) (by omega) (by simp)
end Go.Proofs.Ytkobiblgbpnlaaa.RT
namespace Go.Proofs.Ytkobiblgbpnlaaa.H
open Go.RowKit Go.Proofs.YtkobiblgbpnlaaaW.PrintWords
theorem RegionShifts_walk (fa0 : Option Addr) (fb0 : Nat) (fc0 : List X.S26) (a1 : Int) (a2 : Int) (a3 : Int) (a4 : Int) (W : World) (ga0 : fc0.length ≤ fb0) (gb0 : Kd.C X.k26 W fa0 fc0.length fc0) (w1 : (Lit.int .i64 a1).wf = true) (w2 : (Lit.int .i64 a2).wf = true) (w3 : (Lit.int .i64 a3).wf = true) (w4 : (Lit.int .i64 a4).wf = true) :
    Calls Try.prog 7 #[.slice fa0 fc0.length fb0, .int .i64 a1, .int .i64 a2, .int .i64 a3, .int .i64 a4] W fun e w' => e = .returned (.bool true) ∧ Below W.heap.size W w' :=
  X.miradorlaw15_RegionShifts.calls1 (200000000 + 20) fa0 fb0 fc0 a1 a2 a3 a4 true W gb0 ga0 rfl (RT.shifts_pure 200000000 (by decide) fc0 a1 a2 a3 a4)
end Go.Proofs.Ytkobiblgbpnlaaa.H
