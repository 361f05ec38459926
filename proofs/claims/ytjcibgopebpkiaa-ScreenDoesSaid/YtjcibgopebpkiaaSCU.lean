/- A screen by its places: plain facts; a row is itself. No condition. -/
import Derived.Test.YtjcibgopebpkiaaSC9
namespace Go.Proofs.Ytjcibgopebpkiaa.SC
open Go.RowKit Go.Proofs.YtjcibgopebpkiaaW.PrintWords Go.Proofs.YtjcibgopebpkiaaW.PrintLast Go.Proofs.YtjcibgopebpkiaaW.PrintMore Go.Proofs.Ytjcibgopebpkiaa.B Go.Proofs.Ytjcibgopebpkiaa.SCP
set_option linter.unusedVariables false
set_option linter.unusedSimpArgs false
/-- n colours by their places. -/
def lst (n : Nat) (F : Nat → Int) : List Int := (List.range n).map F
theorem lst_length (n : Nat) (F : Nat → Int) : (lst n F).length = n := by simp [lst]
theorem lst_succ (n : Nat) (F : Nat → Int) : lst (n + 1) F = lst n F ++ [F n] := by simp [lst, List.range_succ]
theorem lst_rd (n : Nat) (F : Nat → Int) (i : Nat) (h : i < n) : rd (lst n F) (i : Int) = F i := by
  unfold rd lst
  rw [List.getD_eq_getElem?_getD, Int.toNat_natCast, List.getElem?_map, List.getElem?_range h]; rfl
theorem lst_ext {n : Nat} {F G : Nat → Int} (h : ∀ i, i < n → F i = G i) : lst n F = lst n G := by
  unfold lst
  exact List.map_congr_left (fun i hi => h i (List.mem_range.1 hi))
theorem w64n {i n : Nat} (h : i < n) (hn : n ≤ 1000000000000) : wrap64 ((i : Int) + 1) = ((i + 1 : Nat) : Int) := by
  rw [w64 (by omega) (by omega)]; push_cast; rfl
theorem rin_f {x y rw rh w h : Int} (h1 : 1 ≤ w ∧ w ≤ 4096 ∧ 1 ≤ h ∧ h ≤ 4096) (hin : inside x y rw rh w h) (a b : Int) : X.miradorref14_In.f x y rw rh a b = some (decide (x ≤ a ∧ a < x + rw ∧ y ≤ b ∧ b < y + rh)) := by
  obtain ⟨i1, i2, i3, i4, i5, i6⟩ := hin
  have e1 : wrap64 (x + rw) = x + rw := w64 (by omega) (by omega)
  have e2 : wrap64 (y + rh) = y + rh := w64 (by omega) (by omega)
  unfold X.miradorref14_In.f
  rw [e1, e2]
  by_cases a1 : a ≥ x
  · by_cases a2 : a < x + rw
    · by_cases a3 : b ≥ y
      · rw [if_pos a1, if_pos a2, if_pos a3]; refine congrArg some (decide_eq_decide.2 ?_); omega
      · rw [if_pos a1, if_pos a2, if_neg a3]; refine congrArg some (decide_eq_false ?_).symm; omega
    · rw [if_pos a1, if_neg a2]; refine congrArg some (decide_eq_false ?_).symm; omega
  · rw [if_neg a1]; refine congrArg some (decide_eq_false ?_).symm; omega
/-- The ref's In at the place of a number. -/
theorem rin_i {x y rw rh w h : Int} (h1 : 1 ≤ w ∧ w ≤ 4096 ∧ 1 ≤ h ∧ h ≤ 4096) (hin : inside x y rw rh w h) (i : Nat) (hi : i < (w * h).toNat) : X.miradorref14_In.f x y rw rh (Int.tmod (i : Int) w) (wrap64 (Int.tdiv (i : Int) w)) = some (inR w x y rw rh i) := by
  have ha := area_le h1.1 h1.2.1 h1.2.2.1 h1.2.2.2
  have hd : 0 ≤ (i : Int) / w ∧ (i : Int) / w ≤ i := ⟨Int.ediv_nonneg (by omega) (by omega), Int.ediv_le_self _ (by omega)⟩
  rw [Int.tmod_eq_emod_of_nonneg (by omega), Int.tdiv_eq_ediv_of_nonneg (by omega), w64 (by omega) (by omega), rin_f h1 hin]
  rfl
theorem black_f (K : Nat) (hK : 40000000 ≤ K) (w h : Int) (h1 : 1 ≤ w ∧ w ≤ 4096 ∧ 1 ≤ h ∧ h ≤ 4096) : X.miradorref14_Black.f K w h = some (w, h, lst (w * h).toNat (fun _ => 0)) := by
  have ha := area_le h1.1 h1.2.1 h1.2.2.1 h1.2.2.2
  obtain ⟨n, hn⟩ : ∃ n : Nat, w * h = n := ⟨(w * h).toNat, by omega⟩
  have key : ∀ (d k i : Nat), i + d = n → d < k → X.miradorref14_Black.l0 k w h i w h (lst i (fun _ => 0)) = some (w, h, lst n (fun _ => 0)) := by
    intro d
    induction d with
    | zero =>
      intro k i hd hk
      obtain ⟨k, rfl⟩ : ∃ m, k = m + 1 := ⟨k - 1, by omega⟩
      obtain rfl : i = n := by omega
      simp only [X.miradorref14_Black.l0]
      rw [hn, w64 (by omega) (by omega), if_neg (by omega)]
    | succ d ih =>
      intro k i hd hk
      obtain ⟨k, rfl⟩ : ∃ m, k = m + 1 := ⟨k - 1, by omega⟩
      simp only [X.miradorref14_Black.l0]
      rw [hn, w64 (by omega) (by omega), if_pos (by omega), if_pos (by rw [lst_length]; omega), w64n (n := n) (by omega) (by omega), ← lst_succ]
      exact ih k (i + 1) (by omega) (by omega)
  unfold X.miradorref14_Black.f
  rw [hn, Int.toNat_natCast]
  exact key n K 0 (by omega) (by omega)
theorem idxR_lt {w x y rw rh : Int} {i : Nat} (hw : 0 < w) (hrw : 0 ≤ rw) (h : inR w x y rw rh i = true) (hR : (rw * rh).toNat ≤ 16777216) : 0 ≤ ((i : Int) / w - y) * rw + ((i : Int) % w - x) ∧ ((i : Int) / w - y) * rw + ((i : Int) % w - x) < rw * rh := by
  unfold inR at h
  have h := of_decide_eq_true h
  have a : 0 ≤ ((i : Int) / w - y) * rw := Int.mul_nonneg (by omega) hrw
  have b : ((i : Int) / w - y + 1) * rw ≤ rh * rw := Int.mul_le_mul_of_nonneg_right (by omega) hrw
  rw [Int.add_mul, Int.one_mul, Int.mul_comm rh rw] at b
  omega
theorem rect_le {x y rw rh w h : Int} (h1 : 1 ≤ w ∧ w ≤ 4096 ∧ 1 ≤ h ∧ h ≤ 4096) (hin : inside x y rw rh w h) : 0 ≤ rw * rh ∧ rw * rh ≤ 16777216 := by
  obtain ⟨i1, i2, i3, i4, i5, i6⟩ := hin
  have a : rw * rh ≤ 4096 * rh := Int.mul_le_mul_of_nonneg_right (by omega) i4
  have b : 0 ≤ rw * rh := Int.mul_nonneg i3 i4
  omega
theorem row_refl (K : Nat) (hK : 40000000 ≤ K) (l : List Int) (hl : l.length ≤ 16777216) : X.miradorref12_Row.f K l l = some true := by
  have key : ∀ (d k i : Nat), i + d = l.length → d < k → X.miradorref12_Row.l0 k l l i = some true := by
    intro d
    induction d with
    | zero =>
      intro k i hd hk
      obtain ⟨k, rfl⟩ : ∃ m, k = m + 1 := ⟨k - 1, by omega⟩
      simp only [X.miradorref12_Row.l0]
      rw [if_neg (by omega)]
    | succ d ih =>
      intro k i hd hk
      obtain ⟨k, rfl⟩ : ∃ m, k = m + 1 := ⟨k - 1, by omega⟩
      simp only [X.miradorref12_Row.l0]
      rw [if_pos (by omega), if_pos (by omega), if_pos (by omega), if_pos trivial, w64n (n := l.length) (by omega) (by omega)]
      exact ih k (i + 1) (by omega) (by omega)
  unfold X.miradorref12_Row.f
  rw [if_pos rfl]
  exact key l.length K 0 (by omega) (by omega)
theorem same_refl (K : Nat) (hK : 40000000 ≤ K) (w h : Int) (l : List Int) (hl : l.length ≤ 16777216) : X.miradorref12_SameImage.f K w h l w h l = some true := by
  unfold X.miradorref12_SameImage.f
  rw [if_pos rfl, if_pos rfl, row_refl K hK l hl]; rfl
/-- How many of the first n of a row lie between x and x + m. -/
def cl (n x m : Int) : Int := max 0 (min (n - x) m)
/-- How many places before i are in the rectangle. -/
def cnt (w x y rw rh : Int) (i : Nat) : Int := cl ((i : Int) / w) y rh * rw + if y ≤ (i : Int) / w ∧ (i : Int) / w < y + rh then cl ((i : Int) % w) x rw else 0
theorem cnt_succ {w x y rw rh : Int} {h : Int} (h1 : 1 ≤ w ∧ w ≤ 4096 ∧ 1 ≤ h ∧ h ≤ 4096) (hin : inside x y rw rh w h) (i : Nat) : cnt w x y rw rh (i + 1) = cnt w x y rw rh i + if inR w x y rw rh i then 1 else 0 := by
  obtain ⟨i1, i2, i3, i4, i5, i6⟩ := hin
  have e0 := Int.mul_ediv_add_emod (i : Int) w
  have e1 := Int.emod_nonneg (i : Int) (show w ≠ 0 by omega)
  have e2 := Int.emod_lt_of_pos (i : Int) (show 0 < w by omega)
  unfold cnt inR
  push_cast
  generalize hr : (i : Int) / w = r at *
  generalize hj : (i : Int) % w = j at *
  by_cases hlast : j + 1 < w
  · obtain ⟨q1, q2⟩ := (Int.ediv_emod_unique (a := (i : Int) + 1) (b := w) (r := j + 1) (q := r) (by omega)).2 ⟨by omega, by omega, by omega⟩
    rw [q1, q2]
    by_cases hy : y ≤ r ∧ r < y + rh
    · rw [if_pos hy, if_pos hy]
      by_cases hx : x ≤ j ∧ j < x + rw
      · rw [if_pos (decide_eq_true ⟨hx.1, hx.2, hy.1, hy.2⟩)]; unfold cl; omega
      · rw [if_neg (by rw [decide_eq_true_iff]; omega)]; unfold cl; omega
    · rw [if_neg hy, if_neg hy, if_neg (by rw [decide_eq_true_iff]; omega)]; omega
  · obtain ⟨q1, q2⟩ := (Int.ediv_emod_unique (a := (i : Int) + 1) (b := w) (r := 0) (q := r + 1) (by omega)).2 ⟨by rw [Int.mul_add]; omega, by omega, by omega⟩
    rw [q1, q2]
    have hz : (if y ≤ r + 1 ∧ r + 1 < y + rh then cl 0 x rw else 0) = 0 := by
      split
      · unfold cl; omega
      · rfl
    rw [hz]
    by_cases hy : y ≤ r ∧ r < y + rh
    · have hc : cl (r + 1) y rh = cl r y rh + 1 := by unfold cl; omega
      rw [if_pos hy, hc, Int.add_mul, Int.one_mul]
      by_cases hx : x ≤ j ∧ j < x + rw
      · rw [if_pos (decide_eq_true ⟨hx.1, hx.2, hy.1, hy.2⟩)]
        have : cl j x rw = rw - 1 := by unfold cl; omega
        omega
      · rw [if_neg (by rw [decide_eq_true_iff]; omega)]
        have : cl j x rw = rw := by unfold cl; omega
        omega
    · have hc : cl (r + 1) y rh = cl r y rh := by unfold cl; omega
      rw [if_neg hy, hc, if_neg (by rw [decide_eq_true_iff]; omega)]; omega
theorem cnt_zero {w x y rw rh h : Int} (h1 : 1 ≤ w ∧ w ≤ 4096 ∧ 1 ≤ h ∧ h ≤ 4096) (hin : inside x y rw rh w h) : cnt w x y rw rh 0 = 0 := by
  obtain ⟨i1, i2, i3, i4, i5, i6⟩ := hin
  unfold cnt
  have hc : cl ((0 : Nat) / w : Int) y rh = 0 := by simp; unfold cl; omega
  rw [hc]
  have hz : (if y ≤ ((0 : Nat) : Int) / w ∧ ((0 : Nat) : Int) / w < y + rh then cl (((0 : Nat) : Int) % w) x rw else 0) = 0 := by
    split
    · simp; unfold cl; omega
    · rfl
  rw [hz]; simp
theorem cnt_all {w x y rw rh h : Int} (h1 : 1 ≤ w ∧ w ≤ 4096 ∧ 1 ≤ h ∧ h ≤ 4096) (hin : inside x y rw rh w h) (n : Nat) (hn : w * h = n) : cnt w x y rw rh n = rh * rw := by
  obtain ⟨i1, i2, i3, i4, i5, i6⟩ := hin
  obtain ⟨q1, q2⟩ := (Int.ediv_emod_unique (a := (n : Int)) (b := w) (r := 0) (q := h) (by omega)).2 ⟨by omega, by omega, by omega⟩
  unfold cnt
  rw [q1, q2]
  have hc : cl h y rh = rh := by unfold cl; omega
  rw [hc]
  split
  · have : cl 0 x rw = 0 := by unfold cl; omega
    omega
  · omega
theorem cnt_in {w x y rw rh h : Int} (h1 : 1 ≤ w ∧ w ≤ 4096 ∧ 1 ≤ h ∧ h ≤ 4096) (hin : inside x y rw rh w h) (i : Nat) (hR : inR w x y rw rh i = true) (F : Nat → Int) (c : Nat) (hc : cnt w x y rw rh i = c) : partF w x y F rw.toNat c = F i := by
  obtain ⟨i1, i2, i3, i4, i5, i6⟩ := hin
  have e0 := Int.mul_ediv_add_emod (i : Int) w
  unfold inR at hR
  have hR := of_decide_eq_true hR
  unfold cnt at hc
  rw [if_pos ⟨hR.2.2.1, hR.2.2.2⟩] at hc
  have h1' : cl ((i : Int) / w) y rh = (i : Int) / w - y := by unfold cl; omega
  have h2' : cl ((i : Int) % w) x rw = (i : Int) % w - x := by unfold cl; omega
  rw [h1', h2'] at hc
  obtain ⟨q1, q2⟩ := (Int.ediv_emod_unique (a := (c : Int)) (b := rw) (r := (i : Int) % w - x) (q := (i : Int) / w - y) (by omega)).2 ⟨by rw [← hc, Int.mul_comm]; omega, by omega, by omega⟩
  unfold partF
  congr 1
  have e3 : ((rw.toNat : Nat) : Int) = rw := by omega
  have d1 : ((c / rw.toNat : Nat) : Int) = (i : Int) / w - y := by rw [Int.natCast_ediv, e3, q1]
  have d2 : ((c % rw.toNat : Nat) : Int) = (i : Int) % w - x := by rw [Int.natCast_emod, e3, q2]
  rw [d1, show y + ((i : Int) / w - y) = (i : Int) / w by omega, Int.mul_comm ((i : Int) / w)]
  have := Int.mul_nonneg (show 0 ≤ w by omega) (show 0 ≤ (i : Int) / w by omega)
  omega
theorem partF_isC {w h x y rw rh : Int} {F : Nat → Int} (h1 : 1 ≤ w ∧ w ≤ 4096 ∧ 1 ≤ h ∧ h ≤ 4096) (hin : inside x y rw rh w h) (hF : ∀ i, i < (w * h).toNat → isC (F i) = true) (i : Nat) (hi : (i : Int) < rh * rw) : isC (partF w x y F rw.toNat i) = true := by
  obtain ⟨i1, i2, i3, i4, i5, i6⟩ := hin
  obtain ⟨rwn, rfl⟩ : ∃ rwn : Nat, rw = rwn := ⟨rw.toNat, by omega⟩
  obtain ⟨rhn, rfl⟩ : ∃ rhn : Nat, rh = rhn := ⟨rh.toNat, by omega⟩
  rw [Int.toNat_natCast]
  have hi : i < rhn * rwn := by exact_mod_cast hi
  have hr : 0 < rwn := by
    rcases Nat.eq_zero_or_pos rwn with h | h
    · subst h; simp at hi
    · exact h
  have hk : i / rwn < rhn := (Nat.div_lt_iff_lt_mul hr).2 hi
  have hm := Nat.mod_lt i hr
  have hfit := row_fits (k := i / rwn) (show 0 < w by omega) i1 i2 i3 i5 i6 (by omega)
  exact hF _ (by omega)
/-- What Resize leaves. -/
def resF (w h : Int) (F : Nat → Int) (w2 : Int) (i : Nat) : Int := atF w h F ((i : Int) % w2) ((i : Int) / w2)
/-- What the program's Resize leaves is that. -/
theorem res_same {w h w2 h2 : Int} {F : Nat → Int} (h1 : 1 ≤ w ∧ w ≤ 4096 ∧ 1 ≤ h ∧ h ≤ 4096) (hb : 1 ≤ w2 ∧ w2 ≤ 4096 ∧ 1 ≤ h2 ∧ h2 ≤ 4096) (i : Nat) (hi : i < (w2 * h2).toNat) :
    blitF w2 0 0 (min w2 w) (min h2 h) (fun _ => 0) (partF w 0 0 F (min w2 w).toNat) i = resF w h F w2 i := by
  have ha := area_le hb.1 hb.2.1 hb.2.2.1 hb.2.2.2
  have e0 := Int.mul_ediv_add_emod (i : Int) w2
  have e1 := Int.emod_nonneg (i : Int) (show w2 ≠ 0 by omega)
  have e2 := Int.emod_lt_of_pos (i : Int) (show 0 < w2 by omega)
  have e3 : 0 ≤ (i : Int) / w2 := Int.ediv_nonneg (by omega) (by omega)
  have e4 : (i : Int) / w2 < h2 := Int.ediv_lt_of_lt_mul (by omega) (by rw [Int.mul_comm]; omega)
  unfold blitF resF atF inR idxR
  generalize (i : Int) / w2 = r at *
  generalize (i : Int) % w2 = j at *
  by_cases hc : j < w ∧ r < h
  · rw [if_pos (decide_eq_true (by omega)), if_neg (by omega)]
    obtain ⟨bw, hbw⟩ : ∃ bw : Nat, min w2 w = bw := ⟨(min w2 w).toNat, by omega⟩
    rw [hbw, Int.toNat_natCast]
    have hrb := Int.mul_nonneg e3 (show 0 ≤ (bw : Int) by omega)
    obtain ⟨c, hcc⟩ : ∃ c : Nat, (r - 0) * (bw : Int) + (j - 0) = c := ⟨((r - 0) * (bw : Int) + (j - 0)).toNat, by rw [show r - 0 = r by omega]; omega⟩
    rw [hcc, Int.toNat_natCast]
    obtain ⟨q1, q2⟩ := (Int.ediv_emod_unique (a := (c : Int)) (b := bw) (r := j) (q := r) (by omega)).2 ⟨by rw [← hcc, Int.mul_comm]; rw [show r - 0 = r by omega]; omega, by omega, by omega⟩
    unfold partF
    have d1 : ((c / bw : Nat) : Int) = r := by rw [Int.natCast_ediv, q1]
    have d2 : ((c % bw : Nat) : Int) = j := by rw [Int.natCast_emod, q2]
    congr 1
    rw [d1]
    have := Int.mul_nonneg e3 (show 0 ≤ w by omega)
    rw [show (0 : Int) + r = r by omega]
    omega
  · rw [if_neg (by rw [decide_eq_true_iff]; omega), if_pos (by omega)]
end Go.Proofs.Ytjcibgopebpkiaa.SC
