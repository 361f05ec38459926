/- A screen by its places: the document's Part, Move, Resize, in plain form. No condition. -/
import Derived.Test.YtjcibgopebpkiaaSCR
namespace Go.Proofs.Ytjcibgopebpkiaa.SC
open Go.RowKit Go.Proofs.YtjcibgopebpkiaaW.PrintWords Go.Proofs.YtjcibgopebpkiaaW.PrintLast Go.Proofs.YtjcibgopebpkiaaW.PrintMore Go.Proofs.Ytjcibgopebpkiaa.B Go.Proofs.Ytjcibgopebpkiaa.SCP
set_option linter.unusedVariables false
set_option linter.unusedSimpArgs false
/-- How many of the first n of a row lie between x and x + m. -/
def cl (n x m : Int) : Int := max 0 (min (n - x) m)
/-- How many places before i are in the rectangle. -/
def cnt (w x y rw rh : Int) (i : Nat) : Int := cl ((i : Int) / w) y rh * rw + if y ≤ (i : Int) / w ∧ (i : Int) / w < y + rh then cl ((i : Int) % w) x rw else 0
theorem cnt_succ {w x y rw rh : Int} {h : Int} (h1 : 1 ≤ w ∧ w ≤ 4096 ∧ 1 ≤ h ∧ h ≤ 4096) (hin : inside x y rw rh w h) (i : Nat) : cnt w x y rw rh (i + 1) = cnt w x y rw rh i + if inR w x y rw rh i then 1 else 0 := by
  obtain ⟨i1, i2, i3, i4, i5, i6⟩ := hin
  have e0 := Int.mul_ediv_add_emod (i : Int) w
  have e1 := Int.emod_nonneg (i : Int) (show w ≠ 0 by omega)
  have e2 := Int.emod_lt_of_pos (i : Int) (show 0 < w by omega)
  unfold cnt inR
  push_cast
  generalize hr : (i : Int) / w = r at *
  generalize hj : (i : Int) % w = j at *
  by_cases hlast : j + 1 < w
  · obtain ⟨q1, q2⟩ := (Int.ediv_emod_unique (a := (i : Int) + 1) (b := w) (r := j + 1) (q := r) (by omega)).2 ⟨by omega, by omega, by omega⟩
    rw [q1, q2]
    by_cases hy : y ≤ r ∧ r < y + rh
    · rw [if_pos hy, if_pos hy]
      by_cases hx : x ≤ j ∧ j < x + rw
      · rw [if_pos (decide_eq_true ⟨hx.1, hx.2, hy.1, hy.2⟩)]; unfold cl; omega
      · rw [if_neg (by rw [decide_eq_true_iff]; omega)]; unfold cl; omega
    · rw [if_neg hy, if_neg hy, if_neg (by rw [decide_eq_true_iff]; omega)]; omega
  · obtain ⟨q1, q2⟩ := (Int.ediv_emod_unique (a := (i : Int) + 1) (b := w) (r := 0) (q := r + 1) (by omega)).2 ⟨by rw [Int.mul_add]; omega, by omega, by omega⟩
    rw [q1, q2]
    have hz : (if y ≤ r + 1 ∧ r + 1 < y + rh then cl 0 x rw else 0) = 0 := by
      split
      · unfold cl; omega
      · rfl
    rw [hz]
    by_cases hy : y ≤ r ∧ r < y + rh
    · have hc : cl (r + 1) y rh = cl r y rh + 1 := by unfold cl; omega
      rw [if_pos hy, hc, Int.add_mul, Int.one_mul]
      by_cases hx : x ≤ j ∧ j < x + rw
      · rw [if_pos (decide_eq_true ⟨hx.1, hx.2, hy.1, hy.2⟩)]
        have : cl j x rw = rw - 1 := by unfold cl; omega
        omega
      · rw [if_neg (by rw [decide_eq_true_iff]; omega)]
        have : cl j x rw = rw := by unfold cl; omega
        omega
    · have hc : cl (r + 1) y rh = cl r y rh := by unfold cl; omega
      rw [if_neg hy, hc, if_neg (by rw [decide_eq_true_iff]; omega)]; omega
theorem cnt_zero {w x y rw rh h : Int} (h1 : 1 ≤ w ∧ w ≤ 4096 ∧ 1 ≤ h ∧ h ≤ 4096) (hin : inside x y rw rh w h) : cnt w x y rw rh 0 = 0 := by
  obtain ⟨i1, i2, i3, i4, i5, i6⟩ := hin
  unfold cnt
  have hc : cl ((0 : Nat) / w : Int) y rh = 0 := by simp; unfold cl; omega
  rw [hc]
  have hz : (if y ≤ ((0 : Nat) : Int) / w ∧ ((0 : Nat) : Int) / w < y + rh then cl (((0 : Nat) : Int) % w) x rw else 0) = 0 := by
    split
    · simp; unfold cl; omega
    · rfl
  rw [hz]; simp
theorem cnt_all {w x y rw rh h : Int} (h1 : 1 ≤ w ∧ w ≤ 4096 ∧ 1 ≤ h ∧ h ≤ 4096) (hin : inside x y rw rh w h) (n : Nat) (hn : w * h = n) : cnt w x y rw rh n = rh * rw := by
  obtain ⟨i1, i2, i3, i4, i5, i6⟩ := hin
  obtain ⟨q1, q2⟩ := (Int.ediv_emod_unique (a := (n : Int)) (b := w) (r := 0) (q := h) (by omega)).2 ⟨by omega, by omega, by omega⟩
  unfold cnt
  rw [q1, q2]
  have hc : cl h y rh = rh := by unfold cl; omega
  rw [hc]
  split
  · have : cl 0 x rw = 0 := by unfold cl; omega
    omega
  · omega
theorem cnt_in {w x y rw rh h : Int} (h1 : 1 ≤ w ∧ w ≤ 4096 ∧ 1 ≤ h ∧ h ≤ 4096) (hin : inside x y rw rh w h) (i : Nat) (hR : inR w x y rw rh i = true) (F : Nat → Int) (c : Nat) (hc : cnt w x y rw rh i = c) : partF w x y F rw.toNat c = F i := by
  obtain ⟨i1, i2, i3, i4, i5, i6⟩ := hin
  have e0 := Int.mul_ediv_add_emod (i : Int) w
  unfold inR at hR
  have hR := of_decide_eq_true hR
  unfold cnt at hc
  rw [if_pos ⟨hR.2.2.1, hR.2.2.2⟩] at hc
  have h1' : cl ((i : Int) / w) y rh = (i : Int) / w - y := by unfold cl; omega
  have h2' : cl ((i : Int) % w) x rw = (i : Int) % w - x := by unfold cl; omega
  rw [h1', h2'] at hc
  obtain ⟨q1, q2⟩ := (Int.ediv_emod_unique (a := (c : Int)) (b := rw) (r := (i : Int) % w - x) (q := (i : Int) / w - y) (by omega)).2 ⟨by rw [← hc, Int.mul_comm]; omega, by omega, by omega⟩
  unfold partF
  congr 1
  have e3 : ((rw.toNat : Nat) : Int) = rw := by omega
  have d1 : ((c / rw.toNat : Nat) : Int) = (i : Int) / w - y := by rw [Int.natCast_ediv, e3, q1]
  have d2 : ((c % rw.toNat : Nat) : Int) = (i : Int) % w - x := by rw [Int.natCast_emod, e3, q2]
  rw [d1, show y + ((i : Int) / w - y) = (i : Int) / w by omega, Int.mul_comm ((i : Int) / w)]
  have := Int.mul_nonneg (show 0 ≤ w by omega) (show 0 ≤ (i : Int) / w by omega)
  omega
theorem rpart_f (K : Nat) (hK : 40000000 ≤ K) (w h x y rw rh : Int) (F : Nat → Int) (h1 : 1 ≤ w ∧ w ≤ 4096 ∧ 1 ≤ h ∧ h ≤ 4096) (hin : inside x y rw rh w h) :
    X.miradorref14_Part.f K w h (lst (w * h).toNat F) x y rw rh = some (lst (rh * rw).toNat (partF w x y F rw.toNat), 0) := by
  have ha := area_le h1.1 h1.2.1 h1.2.2.1 h1.2.2.2
  have hi2 := fun i hi => rin_i h1 hin i hi
  have hr := rect_le h1 hin
  obtain ⟨n, hn⟩ : ∃ n : Nat, w * h = n := ⟨(w * h).toNat, by omega⟩
  have hcn := cnt_all h1 hin n hn
  rw [hn, Int.toNat_natCast] at hi2 ⊢
  have key : ∀ (d k i c : Nat), i + d = n → d < k → cnt w x y rw rh i = c → c ≤ i → X.miradorref14_Part.l0 k (lst c (partF w x y F rw.toNat)) i w h (lst n F) x y rw rh = some (lst (rh * rw).toNat (partF w x y F rw.toNat), 0) := by
    intro d
    induction d with
    | zero =>
      intro k i c hd hk hc hci
      obtain ⟨k, rfl⟩ : ∃ m, k = m + 1 := ⟨k - 1, by omega⟩
      obtain rfl : i = n := by omega
      simp only [X.miradorref14_Part.l0]
      rw [lst_length, if_neg (by omega), show (rh * rw).toNat = c by omega]
    | succ d ih =>
      intro k i c hd hk hc hci
      obtain ⟨k, rfl⟩ : ∃ m, k = m + 1 := ⟨k - 1, by omega⟩
      have hs := cnt_succ h1 hin i
      simp only [X.miradorref14_Part.l0]
      rw [lst_length, if_pos (by omega), if_neg (by omega), hi2 i (by omega)]
      simp only [Option.bind_some]
      by_cases hR : inR w x y rw rh i = true
      · have := ih k (i + 1) (c + 1) (by omega) (by omega) (by rw [hs, if_pos hR, hc]; push_cast; rfl) (by omega)
        rw [lst_succ, cnt_in h1 hin i hR F c hc] at this
        rw [if_pos hR, if_pos (by omega), if_pos (by rw [lst_length]; omega), w64n (n := n) (by omega) (by omega), lst_rd n F i (by omega)]; exact this
      · have := ih k (i + 1) c (by omega) (by omega) (by rw [hs, if_neg hR, hc]; omega) (by omega)
        rw [if_neg hR, w64n (n := n) (by omega) (by omega)]; exact this
  unfold X.miradorref14_Part.f
  rw [rinside_f _ _ _ _ _ _ h1, decide_eq_true hin]
  exact key n K 0 0 (by omega) (by omega) (by rw [cnt_zero h1 hin]; rfl) (by omega)
theorem rpart_out (K : Nat) (w h x y rw rh : Int) (l : List Int) (h1 : 1 ≤ w ∧ w ≤ 4096 ∧ 1 ≤ h ∧ h ≤ 4096) (hin : ¬ inside x y rw rh w h) : X.miradorref14_Part.f K w h l x y rw rh = some ([], 140) := by
  unfold X.miradorref14_Part.f
  rw [rinside_f _ _ _ _ _ _ h1, decide_eq_false hin]; rfl
theorem partF_isC {w h x y rw rh : Int} {F : Nat → Int} (h1 : 1 ≤ w ∧ w ≤ 4096 ∧ 1 ≤ h ∧ h ≤ 4096) (hin : inside x y rw rh w h) (hF : ∀ i, i < (w * h).toNat → isC (F i) = true) (i : Nat) (hi : (i : Int) < rh * rw) : isC (partF w x y F rw.toNat i) = true := by
  obtain ⟨i1, i2, i3, i4, i5, i6⟩ := hin
  obtain ⟨rwn, rfl⟩ : ∃ rwn : Nat, rw = rwn := ⟨rw.toNat, by omega⟩
  obtain ⟨rhn, rfl⟩ : ∃ rhn : Nat, rh = rhn := ⟨rh.toNat, by omega⟩
  rw [Int.toNat_natCast]
  have hi : i < rhn * rwn := by exact_mod_cast hi
  have hr : 0 < rwn := by
    rcases Nat.eq_zero_or_pos rwn with h | h
    · subst h; simp at hi
    · exact h
  have hk : i / rwn < rhn := (Nat.div_lt_iff_lt_mul hr).2 hi
  have hm := Nat.mod_lt i hr
  have hfit := row_fits (k := i / rwn) (show 0 < w by omega) i1 i2 i3 i5 i6 (by omega)
  exact hF _ (by omega)
theorem rmove_f (K : Nat) (hK : 40000001 ≤ K) (w h x y rw rh tx ty : Int) (F : Nat → Int) (h1 : 1 ≤ w ∧ w ≤ 4096 ∧ 1 ≤ h ∧ h ≤ 4096) (hin : inside x y rw rh w h) (hin2 : inside tx ty rw rh w h) (hF : ∀ i, i < (w * h).toNat → isC (F i) = true) :
    X.miradorref14_Move.f K w h (lst (w * h).toNat F) x y rw rh tx ty rw rh = some (w, h, lst (w * h).toNat (blitF w tx ty rw rh F (partF w x y F rw.toNat)), 0) := by
  have hr := rect_le h1 hin
  obtain ⟨K, rfl⟩ : ∃ m, K = m + 1 := ⟨K - 1, by omega⟩
  unfold X.miradorref14_Move.f
  rw [rpart_f (K + 1) (by omega) w h x y rw rh F h1 hin]
  simp only [Option.bind_some, if_true]
  rw [rinside_f _ _ _ _ _ _ h1, decide_eq_true hin2]
  simp only [Option.bind_some, X.miradorref14_Move.j0, Bool.not_true]
  rw [if_neg (by decide), if_pos trivial, if_pos trivial, rblit_f K (by omega) w h tx ty rw rh F _ _ h1 hin2 (by rw [Int.mul_comm rh rw]; omega) (by
    rw [List.all_eq_true]
    intro v hv
    obtain ⟨i, hi, rfl⟩ := List.mem_map.1 hv
    exact partF_isC h1 hin hF i (by have := List.mem_range.1 hi; omega))]
  rfl
theorem rmove_out (K : Nat) (hK : 40000001 ≤ K) (w h x y rw rh tx ty tw th : Int) (l : List Int) (h1 : 1 ≤ w ∧ w ≤ 4096 ∧ 1 ≤ h ∧ h ≤ 4096) (hin : ¬ inside x y rw rh w h) : X.miradorref14_Move.f K w h l x y rw rh tx ty tw th = some (w, h, l, 140) := by
  obtain ⟨K, rfl⟩ : ∃ m, K = m + 1 := ⟨K - 1, by omega⟩
  unfold X.miradorref14_Move.f
  rw [rpart_out _ _ _ _ _ _ _ _ h1 hin]
  simp only [Option.bind_some]
  rw [if_neg (by decide)]
  simp only [X.miradorref14_Move.j0, if_true]
theorem rmove_odd2 (K : Nat) (hK : 40000001 ≤ K) (w h x y rw rh tx ty tw th : Int) (F : Nat → Int) (h1 : 1 ≤ w ∧ w ≤ 4096 ∧ 1 ≤ h ∧ h ≤ 4096) (hin : inside x y rw rh w h) (hin2 : ¬ inside tx ty tw th w h) : X.miradorref14_Move.f K w h (lst (w * h).toNat F) x y rw rh tx ty tw th = some (w, h, lst (w * h).toNat F, 140) := by
  obtain ⟨K, rfl⟩ : ∃ m, K = m + 1 := ⟨K - 1, by omega⟩
  unfold X.miradorref14_Move.f
  rw [rpart_f (K + 1) (by omega) w h x y rw rh F h1 hin]
  simp only [Option.bind_some, if_true]
  rw [rinside_f _ _ _ _ _ _ h1, decide_eq_false hin2]
  simp only [Option.bind_some, X.miradorref14_Move.j0, Bool.not_false, if_true]
theorem rmove_odd1 (K : Nat) (hK : 40000001 ≤ K) (w h x y rw rh tx ty tw th : Int) (F : Nat → Int) (h1 : 1 ≤ w ∧ w ≤ 4096 ∧ 1 ≤ h ∧ h ≤ 4096) (hin : inside x y rw rh w h) (hin2 : inside tx ty tw th w h) (hne : rw ≠ tw ∨ rh ≠ th) : X.miradorref14_Move.f K w h (lst (w * h).toNat F) x y rw rh tx ty tw th = some (w, h, lst (w * h).toNat F, 1) := by
  obtain ⟨K, rfl⟩ : ∃ m, K = m + 1 := ⟨K - 1, by omega⟩
  unfold X.miradorref14_Move.f
  rw [rpart_f (K + 1) (by omega) w h x y rw rh F h1 hin]
  simp only [Option.bind_some, if_true]
  rw [rinside_f _ _ _ _ _ _ h1, decide_eq_true hin2]
  simp only [Option.bind_some, X.miradorref14_Move.j0, Bool.not_true]
  rw [if_neg (by decide)]
  by_cases hw : rw = tw
  · rw [if_pos hw, if_neg (hne.resolve_left (fun h => h hw))]
  · rw [if_neg hw]
/-- What Resize leaves. -/
def resF (w h : Int) (F : Nat → Int) (w2 : Int) (i : Nat) : Int := atF w h F ((i : Int) % w2) ((i : Int) / w2)
theorem rresize_f (K : Nat) (hK : 40000001 ≤ K) (w h w2 h2 : Int) (F : Nat → Int) (h1 : 1 ≤ w ∧ w ≤ 4096 ∧ 1 ≤ h ∧ h ≤ 4096) (hb : 1 ≤ w2 ∧ w2 ≤ 4096 ∧ 1 ≤ h2 ∧ h2 ≤ 4096) :
    X.miradorref14_Resize.f K w h (lst (w * h).toNat F) w2 h2 = some (w2, h2, lst (w2 * h2).toNat (resF w h F w2), 0) := by
  have ha := area_le hb.1 hb.2.1 hb.2.2.1 hb.2.2.2
  have hat := fun a b => rat_f w h a b F h1
  obtain ⟨n, hn⟩ : ∃ n : Nat, w2 * h2 = n := ⟨(w2 * h2).toNat, by omega⟩
  have key : ∀ (d k i : Nat), i + d = n → d < k → X.miradorref14_Resize.l0 k w2 h2 i w h (lst (w * h).toNat F) w2 h2 (lst i (resF w h F w2)) = some (w2, h2, lst n (resF w h F w2), 0) := by
    intro d
    induction d with
    | zero =>
      intro k i hd hk
      obtain ⟨k, rfl⟩ : ∃ m, k = m + 1 := ⟨k - 1, by omega⟩
      obtain rfl : i = n := by omega
      simp only [X.miradorref14_Resize.l0]
      rw [hn, w64 (by omega) (by omega), if_neg (by omega)]
    | succ d ih =>
      intro k i hd hk
      obtain ⟨k, rfl⟩ : ∃ m, k = m + 1 := ⟨k - 1, by omega⟩
      have := ih k (i + 1) (by omega) (by omega)
      rw [lst_succ] at this
      have hdv : 0 ≤ (i : Int) / w2 ∧ (i : Int) / w2 ≤ i := ⟨Int.ediv_nonneg (by omega) (by omega), Int.ediv_le_self _ (by omega)⟩
      simp only [X.miradorref14_Resize.l0]
      rw [hn, w64 (x := (n : Int)) (by omega) (by omega), if_pos (by omega), if_neg (by omega), hat]
      simp only [Option.bind_some]
      rw [if_pos (by rw [lst_length]; omega), w64n (n := n) (by omega) (by omega), Int.tmod_eq_emod_of_nonneg (by omega), Int.tdiv_eq_ediv_of_nonneg (by omega), w64 (x := (i : Int) / w2) (by omega) (by omega)]
      exact this
  obtain ⟨K, rfl⟩ : ∃ m, K = m + 1 := ⟨K - 1, by omega⟩
  unfold X.miradorref14_Resize.f
  rw [rside_f, rside_f, decide_eq_true ⟨hb.1, hb.2.1⟩, decide_eq_true ⟨hb.2.2.1, hb.2.2.2⟩]
  simp only [Option.bind_some, if_true, X.miradorref14_Resize.j0, Bool.not_true]
  rw [if_neg (by decide), hn, Int.toNat_natCast]
  exact key n K 0 (by omega) (by omega)
theorem rresize_bad (K : Nat) (hK : 40000001 ≤ K) (w h w2 h2 : Int) (l : List Int) (hb : ¬ (1 ≤ w2 ∧ w2 ≤ 4096 ∧ 1 ≤ h2 ∧ h2 ≤ 4096)) :
    X.miradorref14_Resize.f K w h l w2 h2 = some (w, h, l, 1) := by
  obtain ⟨K, rfl⟩ : ∃ m, K = m + 1 := ⟨K - 1, by omega⟩
  unfold X.miradorref14_Resize.f
  rw [rside_f, rside_f]
  by_cases h1 : 1 ≤ w2 ∧ w2 ≤ 4096
  · rw [decide_eq_true h1, decide_eq_false (fun h => hb ⟨h1.1, h1.2, h⟩)]
    simp only [Option.bind_some, if_true, X.miradorref14_Resize.j0, Bool.not_false]
  · rw [decide_eq_false h1]
    simp only [Option.bind_some]
    rw [if_neg (by decide)]
    simp only [X.miradorref14_Resize.j0, if_true]
/-- What the program's Resize leaves is that. -/
theorem res_same {w h w2 h2 : Int} {F : Nat → Int} (h1 : 1 ≤ w ∧ w ≤ 4096 ∧ 1 ≤ h ∧ h ≤ 4096) (hb : 1 ≤ w2 ∧ w2 ≤ 4096 ∧ 1 ≤ h2 ∧ h2 ≤ 4096) (i : Nat) (hi : i < (w2 * h2).toNat) :
    blitF w2 0 0 (min w2 w) (min h2 h) (fun _ => 0) (partF w 0 0 F (min w2 w).toNat) i = resF w h F w2 i := by
  have ha := area_le hb.1 hb.2.1 hb.2.2.1 hb.2.2.2
  have e0 := Int.mul_ediv_add_emod (i : Int) w2
  have e1 := Int.emod_nonneg (i : Int) (show w2 ≠ 0 by omega)
  have e2 := Int.emod_lt_of_pos (i : Int) (show 0 < w2 by omega)
  have e3 : 0 ≤ (i : Int) / w2 := Int.ediv_nonneg (by omega) (by omega)
  have e4 : (i : Int) / w2 < h2 := Int.ediv_lt_of_lt_mul (by omega) (by rw [Int.mul_comm]; omega)
  unfold blitF resF atF inR idxR
  generalize (i : Int) / w2 = r at *
  generalize (i : Int) % w2 = j at *
  by_cases hc : j < w ∧ r < h
  · rw [if_pos (decide_eq_true (by omega)), if_neg (by omega)]
    obtain ⟨bw, hbw⟩ : ∃ bw : Nat, min w2 w = bw := ⟨(min w2 w).toNat, by omega⟩
    rw [hbw, Int.toNat_natCast]
    have hrb := Int.mul_nonneg e3 (show 0 ≤ (bw : Int) by omega)
    obtain ⟨c, hcc⟩ : ∃ c : Nat, (r - 0) * (bw : Int) + (j - 0) = c := ⟨((r - 0) * (bw : Int) + (j - 0)).toNat, by rw [show r - 0 = r by omega]; omega⟩
    rw [hcc, Int.toNat_natCast]
    obtain ⟨q1, q2⟩ := (Int.ediv_emod_unique (a := (c : Int)) (b := bw) (r := j) (q := r) (by omega)).2 ⟨by rw [← hcc, Int.mul_comm]; rw [show r - 0 = r by omega]; omega, by omega, by omega⟩
    unfold partF
    have d1 : ((c / bw : Nat) : Int) = r := by rw [Int.natCast_ediv, q1]
    have d2 : ((c % bw : Nat) : Int) = j := by rw [Int.natCast_emod, q2]
    congr 1
    rw [d1]
    have := Int.mul_nonneg e3 (show 0 ≤ w by omega)
    rw [show (0 : Int) + r = r by omega]
    omega
  · rw [if_neg (by rw [decide_eq_true_iff]; omega), if_pos (by omega)]
end Go.Proofs.Ytjcibgopebpkiaa.SC
