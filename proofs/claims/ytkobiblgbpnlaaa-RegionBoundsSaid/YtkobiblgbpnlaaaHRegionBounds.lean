/- The law RegionBounds: the walk, out of the print's contract, and its plain law. No condition. -/
-- OPEN 0 Go.Proofs.Ytkobiblgbpnlaaa.RQ.open_rects fa fb fc : ga gb
import Derived.Test.YtkobiblgbpnlaaaRB
import Derived.Test.YtkobiblgbpnlaaaRQ
import Derived.Test.YtkobiblgbpnlaaaXx37
namespace Go.Proofs.Ytkobiblgbpnlaaa.RT
open Go.Proofs.Ytkobiblgbpnlaaa Go.Proofs.Ytkobiblgbpnlaaa.X Go.RowKit Go.Proofs.YtkobiblgbpnlaaaW.PrintWords Go.Proofs.YtkobiblgbpnlaaaW.PrintLast Go.Proofs.YtkobiblgbpnlaaaW.PrintMore
set_option linter.unusedVariables false
set_option linter.unusedSimpArgs false
theorem both_some (a : List SR) (r : SR) (hc : cntS r = true) (x y : Int) (h : RG.has (a.map tr) x y = true) (hr : r.f0 ≤ x ∧ x < r.f0 + r.f2 ∧ r.f1 ≤ y ∧ y < r.f1 + r.f3) : 0 < (combS keepBoth a [r]).length := by
  have h1 := (reg_both a [r]).some (x := x) (y := y) (by rw [h, has_of [r] r (by simp) hc x y hr]; rfl)
  exact List.length_pos_iff.2 (fun e => h1 (by rw [e]; rfl))
theorem cnt_mk {x y w h : Int} (h1 : -1048576 ≤ x ∧ x ≤ 1048576 ∧ 1 ≤ w ∧ w ≤ 2097152 ∧ x + w ≤ 1048576) (h2 : -1048576 ≤ y ∧ y ≤ 1048576 ∧ 1 ≤ h ∧ h ≤ 2097152 ∧ y + h ≤ 1048576) : cntS (⟨x, y, w, h⟩ : SR) = true := (cntS_iff _).2 ⟨h1, h2⟩
theorem bounds_j1 (k : Nat) (hk : 100000000 < k) (a : List SR) (la : a.length ≤ 12) (x0 y0 x1 y1 : Int) (H : Hul a x0 y0 x1 y1) :
    miradorlaw15_RegionBounds.j1 (k + 1) a true false x0 y0 (x1 - x0) (y1 - y0) = some true := by
  obtain ⟨⟨hx1, hx2, hx3⟩, ⟨hy1, hy2, hy3⟩, hall, ⟨yl, hL⟩, ⟨yr, hR⟩, ⟨xt, hT⟩, ⟨xd, hD⟩⟩ := H
  have c0 : cntS (⟨x0, y0, x1 - x0, y1 - y0⟩ : SR) = true := cnt_mk (by omega) (by omega)
  have e0 : combS keepMinus a [⟨x0, y0, x1 - x0, y1 - y0⟩] = [] := List.map_eq_nil_iff.1 ((reg_minus a [⟨x0, y0, x1 - x0, y1 - y0⟩]).nil (fun x y => by
    cases hxy : RG.has (a.map tr) x y with
    | false => rfl
    | true =>
      have q := hall x y hxy
      rw [has_of [⟨x0, y0, x1 - x0, y1 - y0⟩] _ (by simp) c0 x y ⟨q.1, by show x < x0 + (x1 - x0); omega, q.2.2.1, by show y < y0 + (y1 - y0); omega⟩]
      rfl))
  have ql := hall _ _ hL
  have qr := hall _ _ hR
  have qt := hall _ _ hT
  have qd := hall _ _ hD
  have n1 := both_some a ⟨x0, y0, 1, y1 - y0⟩ (cnt_mk (by omega) (by omega)) x0 yl hL ⟨Int.le_refl _, by show x0 < x0 + 1; omega, by show y0 ≤ yl; omega, by show yl < y0 + (y1 - y0); omega⟩
  have n2 := both_some a ⟨x1 - 1, y0, 1, y1 - y0⟩ (cnt_mk (by omega) (by omega)) (x1 - 1) yr hR ⟨Int.le_refl _, by show x1 - 1 < x1 - 1 + 1; omega, by show y0 ≤ yr; omega, by show yr < y0 + (y1 - y0); omega⟩
  have n3 := both_some a ⟨x0, y0, x1 - x0, 1⟩ (cnt_mk (by omega) (by omega)) xt y0 hT ⟨by show x0 ≤ xt; omega, by show xt < x0 + (x1 - x0); omega, Int.le_refl _, by show y0 < y0 + 1; omega⟩
  have n4 := both_some a ⟨x0, y1 - 1, x1 - x0, 1⟩ (cnt_mk (by omega) (by omega)) xd (y1 - 1) hD ⟨by show x0 ≤ xd; omega, by show xd < x0 + (x1 - x0); omega, Int.le_refl _, by show y1 - 1 < y1 - 1 + 1; omega⟩
  have hw : 0 ≤ x1 - x0 ∧ x1 - x0 ≤ 2097152 := by omega
  have hh : 0 ≤ y1 - y0 ∧ y1 - y0 ≤ 2097152 := by omega
  have hm1 : 0 ≤ (x1 - x0) * (y1 - y0) := Int.mul_nonneg hw.1 hh.1
  have hm2 : (x1 - x0) * (y1 - y0) ≤ 2097152 * 2097152 := Int.mul_le_mul hw.2 hh.2 hh.1 (by decide)
  have har : RG.areaOf (fun x y => RG.has (a.map tr) x y) ≤ (x1 - x0) * (y1 - y0) := by
    have g := (RG.reg_one (tr ⟨x0, y0, x1 - x0, y1 - y0⟩) ((cnt_tr _).trans c0)).area
    have g2 : RG.area0 [tr (⟨x0, y0, x1 - x0, y1 - y0⟩ : SR)] = (x1 - x0) * (y1 - y0) := by rw [RG.area0_cons]; simp [RG.area0, tr]
    rw [← g2, g]
    refine RG.areaOf_le (fun x y hxy => ?_)
    have q := hall x y hxy
    show (decide (x0 ≤ x) && decide (x < x0 + (x1 - x0)) && decide (y0 ≤ y) && decide (y < y0 + (y1 - y0))) = true
    rw [decide_eq_true q.1, decide_eq_true (by omega : x < x0 + (x1 - x0)), decide_eq_true q.2.2.1, decide_eq_true (by omega : y < y0 + (y1 - y0))]
    rfl
  rw [miradorlaw15_RegionBounds.j1, if_neg (by decide), minus_f a _ (by simp; omega), Option.bind_some, e0, if_pos rfl, if_pos (by rfl)]
  rw [wrap_id (x := x0 + (x1 - x0)) (by omega) (by omega), wrap_id (x := y0 + (y1 - y0)) (by omega) (by omega), wrap_id (x := x0 + (x1 - x0) - 1) (by omega) (by omega), wrap_id (x := y0 + (y1 - y0) - 1) (by omega) (by omega), wrap_id (x := (x1 - x0) * (y1 - y0)) (by omega) (by omega)]
  rw [show x0 + (x1 - x0) - 1 = x1 - 1 by omega, show y0 + (y1 - y0) - 1 = y1 - 1 by omega]
  rw [both_f a _ (by simp; omega), Option.bind_some, if_pos (by omega), both_f a _ (by simp; omega), Option.bind_some, if_pos (by omega), both_f a _ (by simp; omega), Option.bind_some, if_pos (by omega), both_f a _ (by simp; omega), Option.bind_some, if_pos (by omega), area_f _ _ (by omega) (by omega), Option.bind_some, decide_eq_true har]
theorem bounds_j0 (k : Nat) (hk : 100000000 < k) (a : List SR) (la : a.length ≤ 12) (x0 y0 x1 y1 x y : Int) (H : Hul a x0 y0 x1 y1) (inn : Bool) (hi : RG.has (a.map tr) x y = true → inn = true) :
    miradorlaw15_RegionBounds.j0 (k + 2) a x y true inn x0 y0 (x1 - x0) (y1 - y0) = some true := by
  rw [miradorlaw15_RegionBounds.j0, has_f _ _ _ _ (by omega) (by omega), Option.bind_some]
  cases h : RG.has (a.map tr) x y with
  | false => rw [if_neg (by decide)]; exact bounds_j1 k hk a la x0 y0 x1 y1 H
  | true => rw [if_pos rfl, hi h]; exact bounds_j1 k hk a la x0 y0 x1 y1 H
theorem bounds_pure (k : Nat) (hk : 200000000 ≤ k) (a : List SR) (x y : Int) : miradorlaw15_RegionBounds.f (k + 20) a x y = some true := by
  unfold miradorlaw15_RegionBounds.f
  rw [works_f _ (by omega), Option.bind_some, if_pos rfl]
  by_cases c0 : (a.length : Int) > 12
  · rw [if_pos c0]
  rw [if_neg c0, bounds_f _ a (by omega) (by omega), Option.bind_some, make_f a (by omega), Option.bind_some]
  by_cases hn : a.filter cntS = []
  · have hz : combS keepMake a [] = [] := List.map_eq_nil_iff.1 ((reg_make a).nil (fun x y => by
      unfold RG.has; rw [counting_tr, hn]; rfl))
    rw [hz, hn, if_pos (by rfl)]
    rfl
  · have H := hul_of a hn
    have hne : combS keepMake a [] ≠ [] := fun e => by
      obtain ⟨yl, hL⟩ := H.left
      exact (reg_make a).some hL (by rw [e]; rfl)
    have hpos := List.length_pos_iff.2 hne
    rw [if_neg (by omega)]
    unfold hullS
    rw [if_neg hn]
    obtain ⟨x0, hx0⟩ : ∃ x0, Lib.minOf (xendsS (a.filter cntS)) = x0 := ⟨_, rfl⟩
    obtain ⟨y0, hy0⟩ : ∃ y0, Lib.minOf (yendsS (a.filter cntS)) = y0 := ⟨_, rfl⟩
    obtain ⟨x1, hx1⟩ : ∃ x1, Lib.maxOf (xendsS (a.filter cntS)) = x1 := ⟨_, rfl⟩
    obtain ⟨y1, hy1⟩ : ∃ y1, Lib.maxOf (yendsS (a.filter cntS)) = y1 := ⟨_, rfl⟩
    rw [hx0, hy0, hx1, hy1] at H ⊢
    have qx := H.x
    have qy := H.y
    simp only []
    rw [wrap_id (x := x0 + (x1 - x0)) (by omega) (by omega), wrap_id (x := y0 + (y1 - y0)) (by omega) (by omega)]
    have go := fun inn hi => bounds_j0 (k + 18) (by omega) a (by omega) x0 y0 x1 y1 x y H inn hi
    by_cases d1 : x ≥ x0
    · rw [if_pos d1]
      by_cases d2 : y ≥ y0
      · rw [if_pos d2]
        by_cases d3 : x < x0 + (x1 - x0)
        · rw [if_pos d3]
          exact go _ (fun h => decide_eq_true (by have := H.all x y h; omega))
        · rw [if_neg d3]
          exact go _ (fun h => by have := H.all x y h; omega)
      · rw [if_neg d2]
        exact go _ (fun h => by have := H.all x y h; omega)
    · rw [if_neg d1]
      exact go _ (fun h => by have := H.all x y h; omega)
end Go.Proofs.Ytkobiblgbpnlaaa.RT
namespace Go.Proofs.Ytkobiblgbpnlaaa.H
open Go.RowKit Go.Proofs.YtkobiblgbpnlaaaW.PrintWords
theorem RegionBounds_walk (fa0 : Option Addr) (fb0 : Nat) (fc0 : List X.S26) (a1 : Int) (a2 : Int) (W : World) (ga0 : fc0.length ≤ fb0) (gb0 : Kd.C X.k26 W fa0 fc0.length fc0) (_w1 : (Lit.int .i64 a1).wf = true) (_w2 : (Lit.int .i64 a2).wf = true) :
    Calls Try.prog 8 #[.slice fa0 fc0.length fb0, .int .i64 a1, .int .i64 a2] W fun e w' => e = .returned (.bool true) ∧ Below W.heap.size W w' :=
  X.miradorlaw15_RegionBounds.calls1 (200000000 + 20) fa0 fb0 fc0 a1 a2 true W gb0 ga0 rfl (RT.bounds_pure 200000000 (by decide) fc0 a1 a2)
end Go.Proofs.Ytkobiblgbpnlaaa.H
