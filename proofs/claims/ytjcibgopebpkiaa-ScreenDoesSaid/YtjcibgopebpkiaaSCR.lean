/- A screen by its places: what the document's functions answer, in plain form. No condition. -/
import Derived.Test.YtjcibgopebpkiaaSCU
import Derived.Test.YtjcibgopebpkiaaXx
namespace Go.Proofs.Ytjcibgopebpkiaa.SC
open Go.RowKit Go.Proofs.YtjcibgopebpkiaaW.PrintWords Go.Proofs.YtjcibgopebpkiaaW.PrintLast Go.Proofs.YtjcibgopebpkiaaW.PrintMore Go.Proofs.Ytjcibgopebpkiaa.B Go.Proofs.Ytjcibgopebpkiaa.SCP
set_option linter.unusedVariables false
set_option linter.unusedSimpArgs false
theorem rinside_f (x y rw rh w h : Int) (h1 : 1 ≤ w ∧ w ≤ 4096 ∧ 1 ≤ h ∧ h ≤ 4096) : X.miradorref14_Inside.f x y rw rh w h = some (decide (inside x y rw rh w h)) := by
  unfold X.miradorref14_Inside.f inside
  by_cases a1 : x ≥ 0
  · by_cases a2 : y ≥ 0
    · by_cases a3 : rw ≥ 0
      · by_cases a4 : rh ≥ 0
        · by_cases a5 : rw ≤ w
          · have e1 : wrap64 (w - rw) = w - rw := w64 (by omega) (by omega)
            by_cases a6 : x ≤ w - rw
            · by_cases a7 : rh ≤ h
              · have e2 : wrap64 (h - rh) = h - rh := w64 (by omega) (by omega)
                rw [if_pos a1, if_pos a2, if_pos a3, if_pos a4, if_pos a5, e1, if_pos a6, if_pos a7, e2]
                refine congrArg some (decide_eq_decide.2 ?_); omega
              · rw [if_pos a1, if_pos a2, if_pos a3, if_pos a4, if_pos a5, e1, if_pos a6, if_neg a7]
                refine congrArg some (decide_eq_false ?_).symm; omega
            · rw [if_pos a1, if_pos a2, if_pos a3, if_pos a4, if_pos a5, e1, if_neg a6]
              refine congrArg some (decide_eq_false ?_).symm; omega
          · rw [if_pos a1, if_pos a2, if_pos a3, if_pos a4, if_neg a5]
            refine congrArg some (decide_eq_false ?_).symm; omega
        · rw [if_pos a1, if_pos a2, if_pos a3, if_neg a4]
          refine congrArg some (decide_eq_false ?_).symm; omega
      · rw [if_pos a1, if_pos a2, if_neg a3]
        refine congrArg some (decide_eq_false ?_).symm; omega
    · rw [if_pos a1, if_neg a2]
      refine congrArg some (decide_eq_false ?_).symm; omega
  · rw [if_neg a1]
    refine congrArg some (decide_eq_false ?_).symm; omega
theorem rcolour_f (n : Int) : X.miradorref14_Colour.f n = some (isC n) := by
  unfold X.miradorref14_Colour.f isC
  split
  · congr 1; rw [Bool.eq_iff_iff]; simp; omega
  · refine congrArg some (decide_eq_false ?_).symm; omega
theorem rside_f (n : Int) : X.miradorref14_Side.f n = some (decide (1 ≤ n ∧ n ≤ 4096)) := by
  unfold X.miradorref14_Side.f
  split
  · congr 1; rw [Bool.eq_iff_iff]; simp; omega
  · refine congrArg some (decide_eq_false ?_).symm; omega
theorem rfill_f (K : Nat) (hK : 40000000 ≤ K) (w h x y rw rh c : Int) (F : Nat → Int) (h1 : 1 ≤ w ∧ w ≤ 4096 ∧ 1 ≤ h ∧ h ≤ 4096) (hin : inside x y rw rh w h) (hc : isC c = true) :
    X.miradorref14_Fill.f K w h (lst (w * h).toNat F) x y rw rh c = some (w, h, lst (w * h).toNat (fun i => if inR w x y rw rh i then c else F i), 0) := by
  have ha := area_le h1.1 h1.2.1 h1.2.2.1 h1.2.2.2
  have hi2 := fun i hi => rin_i h1 hin i hi
  obtain ⟨n, hn⟩ : ∃ n : Nat, w * h = n := ⟨(w * h).toNat, by omega⟩
  rw [hn, Int.toNat_natCast] at hi2 ⊢
  have key : ∀ (d k i : Nat), i + d = n → d < k → X.miradorref14_Fill.l0 k c i w h (lst n F) x y rw rh w h (lst i (fun i => if inR w x y rw rh i then c else F i)) = some (w, h, lst n (fun i => if inR w x y rw rh i then c else F i), 0) := by
    intro d
    induction d with
    | zero =>
      intro k i hd hk
      obtain ⟨k, rfl⟩ : ∃ m, k = m + 1 := ⟨k - 1, by omega⟩
      obtain rfl : i = n := by omega
      simp only [X.miradorref14_Fill.l0]
      rw [lst_length, if_neg (by omega)]
    | succ d ih =>
      intro k i hd hk
      obtain ⟨k, rfl⟩ : ∃ m, k = m + 1 := ⟨k - 1, by omega⟩
      have := ih k (i + 1) (by omega) (by omega)
      rw [lst_succ] at this
      simp only [X.miradorref14_Fill.l0]
      rw [lst_length, if_pos (by omega), if_pos (by omega), if_neg (by omega), hi2 i (by omega)]
      simp only [Option.bind_some]
      by_cases hR : inR w x y rw rh i = true
      · rw [if_pos hR] at this
        rw [if_pos hR, if_pos (by rw [lst_length]; omega), w64n (n := n) (by omega) (by omega)]; exact this
      · rw [if_neg hR] at this
        rw [if_neg hR, if_pos (by rw [lst_length]; omega), w64n (n := n) (by omega) (by omega), lst_rd n F i (by omega)]; exact this
  unfold X.miradorref14_Fill.f
  rw [rinside_f _ _ _ _ _ _ h1, decide_eq_true hin, rcolour_f, hc]
  exact key n K 0 (by omega) (by omega)
theorem rfill_out (K : Nat) (hK : 40000000 ≤ K) (w h x y rw rh c : Int) (l : List Int) (h1 : 1 ≤ w ∧ w ≤ 4096 ∧ 1 ≤ h ∧ h ≤ 4096) (hin : ¬ inside x y rw rh w h) : X.miradorref14_Fill.f K w h l x y rw rh c = some (w, h, l, 140) := by
  unfold X.miradorref14_Fill.f
  rw [rinside_f _ _ _ _ _ _ h1, decide_eq_false hin]; rfl
theorem rfill_odd (K : Nat) (hK : 40000000 ≤ K) (w h x y rw rh c : Int) (l : List Int) (h1 : 1 ≤ w ∧ w ≤ 4096 ∧ 1 ≤ h ∧ h ≤ 4096) (hin : inside x y rw rh w h) (hc : isC c = false) : X.miradorref14_Fill.f K w h l x y rw rh c = some (w, h, l, 1) := by
  unfold X.miradorref14_Fill.f
  rw [rinside_f _ _ _ _ _ _ h1, decide_eq_true hin, rcolour_f, hc]; rfl
theorem rblit_out (K : Nat) (hK : 40000000 ≤ K) (w h x y rw rh : Int) (l pix : List Int) (h1 : 1 ≤ w ∧ w ≤ 4096 ∧ 1 ≤ h ∧ h ≤ 4096) (hin : ¬ inside x y rw rh w h) : X.miradorref14_Blit.f K w h l x y rw rh pix = some (w, h, l, 140) := by
  unfold X.miradorref14_Blit.f
  rw [rinside_f _ _ _ _ _ _ h1, decide_eq_false hin]; rfl
theorem rblit_odd (K : Nat) (hK : 40000000 ≤ K) (w h x y rw rh : Int) (l pix : List Int) (h1 : 1 ≤ w ∧ w ≤ 4096 ∧ 1 ≤ h ∧ h ≤ 4096) (hin : inside x y rw rh w h) (hb : (pix.length : Int) ≠ rw * rh ∨ pix.all isC = false) : X.miradorref14_Blit.f K w h l x y rw rh pix = some (w, h, l, 1) := by
  have hr := rect_le h1 hin
  unfold X.miradorref14_Blit.f
  rw [rinside_f _ _ _ _ _ _ h1, decide_eq_true hin]
  simp only [Option.bind_some, if_true]
  rw [w64 (by omega) (by omega)]
  by_cases hl : (pix.length : Int) = rw * rh
  · rw [if_pos hl]
    have hb := hb.resolve_left (fun h => h hl)
    have key : ∀ (d k i : Nat), i + d = pix.length → d < k → (pix.drop i).all isC = false → X.miradorref14_Blit.l0 k pix i w h l x y rw rh = some (w, h, l, 1) := by
      intro d
      induction d with
      | zero =>
        intro k i hd hk ha
        rw [List.drop_of_length_le (by omega)] at ha; simp at ha
      | succ d ih =>
        intro k i hd hk ha
        obtain ⟨k, rfl⟩ : ∃ m, k = m + 1 := ⟨k - 1, by omega⟩
        simp only [X.miradorref14_Blit.l0]
        rw [if_pos (by omega), if_pos (by omega), rcolour_f]
        have hrd : rd pix (i : Int) = pix[i]'(by omega) := by unfold rd; simp [List.getD_eq_getElem?_getD, List.getElem?_eq_getElem (show i < pix.length by omega)]
        rw [List.drop_eq_getElem_cons (by omega), List.all_cons] at ha
        simp only [Option.bind_some]
        rw [hrd]
        cases hc : isC (pix[i]'(by omega)) with
        | false => simp
        | true =>
          rw [hc, Bool.true_and] at ha
          simp only [if_true]
          rw [w64n (n := pix.length) (by omega) (by omega)]
          exact ih k (i + 1) (by omega) (by omega) ha
    exact key pix.length K 0 (by omega) (by omega) (by simpa using hb)
  · rw [if_neg hl]
theorem rblit_f (K : Nat) (hK : 40000000 ≤ K) (w h x y rw rh : Int) (F P : Nat → Int) (m : Nat) (h1 : 1 ≤ w ∧ w ≤ 4096 ∧ 1 ≤ h ∧ h ≤ 4096) (hin : inside x y rw rh w h) (hm : (m : Int) = rw * rh) (hall : (lst m P).all isC = true) :
    X.miradorref14_Blit.f K w h (lst (w * h).toNat F) x y rw rh (lst m P) = some (w, h, lst (w * h).toNat (blitF w x y rw rh F P), 0) := by
  have ha := area_le h1.1 h1.2.1 h1.2.2.1 h1.2.2.2
  have hr := rect_le h1 hin
  have hi2 := fun i hi => rin_i h1 hin i hi
  have hidx : ∀ i : Nat, inR w x y rw rh i = true → _ := fun i hi => @idxR_lt w x y rw rh i (by omega) hin.2.2.1 hi (by omega)
  obtain ⟨n, hn⟩ : ∃ n : Nat, w * h = n := ⟨(w * h).toNat, by omega⟩
  rw [hn, Int.toNat_natCast] at hi2 ⊢
  have key : ∀ (d k i : Nat), i + d = n → d < k → X.miradorref14_Blit.l1 k (lst m P) i w h (lst n F) x y rw rh w h (lst i (blitF w x y rw rh F P)) = some (w, h, lst n (blitF w x y rw rh F P), 0) := by
    intro d
    induction d with
    | zero =>
      intro k i hd hk
      obtain ⟨k, rfl⟩ : ∃ m, k = m + 1 := ⟨k - 1, by omega⟩
      obtain rfl : i = n := by omega
      simp only [X.miradorref14_Blit.l1]
      rw [lst_length, if_neg (by omega)]
    | succ d ih =>
      intro k i hd hk
      obtain ⟨k, rfl⟩ : ∃ m, k = m + 1 := ⟨k - 1, by omega⟩
      have := ih k (i + 1) (by omega) (by omega)
      rw [lst_succ] at this
      simp only [X.miradorref14_Blit.l1]
      rw [lst_length, if_pos (by omega), if_neg (by omega), if_pos (by omega), hi2 i (by omega)]
      simp only [Option.bind_some]
      by_cases hR : inR w x y rw rh i = true
      · unfold blitF at this
        rw [if_pos hR] at this
        have hx := hidx i hR
        have hR' := hR
        unfold inR at hR'
        have hR' := of_decide_eq_true hR'
        obtain ⟨b1, b2, b3, b4, b5, b6⟩ := hin
        have hmul : 0 ≤ ((i : Int) / w - y) * rw ∧ ((i : Int) / w - y) * rw ≤ rw * rh := by
          refine ⟨Int.mul_nonneg (by omega) b3, ?_⟩
          omega
        rw [Int.tmod_eq_emod_of_nonneg (by omega), Int.tdiv_eq_ediv_of_nonneg (by omega), w64 (x := (i : Int) / w) (by omega) (by omega), w64 (x := (i : Int) / w - y) (by omega) (by omega), w64 (x := ((i : Int) / w - y) * rw) (by omega) (by omega), w64 (x := ((i : Int) / w - y) * rw + (i : Int) % w) (by omega) (by omega),
          show ((i : Int) / w - y) * rw + (i : Int) % w - x = ((i : Int) / w - y) * rw + ((i : Int) % w - x) by omega, w64 (by omega) (by omega)]
        obtain ⟨q, hq⟩ : ∃ q : Nat, ((i : Int) / w - y) * rw + ((i : Int) % w - x) = q := ⟨idxR w x y rw i, by unfold idxR; omega⟩
        have hqi : idxR w x y rw i = q := by unfold idxR; rw [hq]; rfl
        rw [hqi] at this
        rw [if_pos hR, hq, if_pos (by omega), lst_length, if_pos (by omega), if_pos (by rw [lst_length]; omega), w64n (n := n) (by omega) (by omega), lst_rd m P q (by omega)]; exact this
      · unfold blitF at this
        rw [if_neg hR] at this
        rw [if_neg hR, if_pos (by rw [lst_length]; omega), w64n (n := n) (by omega) (by omega), lst_rd n F i (by omega)]; exact this
  have key0 : ∀ (d k i : Nat), i + d = m → d + n + 1 < k → X.miradorref14_Blit.l0 k (lst m P) i w h (lst n F) x y rw rh = some (w, h, lst n (blitF w x y rw rh F P), 0) := by
    intro d
    induction d with
    | zero =>
      intro k i hd hk
      obtain ⟨k, rfl⟩ : ∃ m, k = m + 1 := ⟨k - 1, by omega⟩
      obtain rfl : i = m := by omega
      simp only [X.miradorref14_Blit.l0]
      rw [lst_length, if_neg (by omega)]
      exact key n k 0 (by omega) (by omega)
    | succ d ih =>
      intro k i hd hk
      obtain ⟨k, rfl⟩ : ∃ m, k = m + 1 := ⟨k - 1, by omega⟩
      simp only [X.miradorref14_Blit.l0]
      have hc : isC (P i) = true := by
        rw [List.all_eq_true] at hall
        exact hall _ (List.mem_map.2 ⟨i, List.mem_range.2 (by omega), rfl⟩)
      rw [lst_length, if_pos (by omega), if_pos (by omega), lst_rd m P i (by omega), rcolour_f, hc]
      simp only [Option.bind_some, if_true]
      rw [w64n (n := m) (by omega) (by omega)]
      exact ih k (i + 1) (by omega) (by omega)
  unfold X.miradorref14_Blit.f
  rw [rinside_f _ _ _ _ _ _ h1, decide_eq_true hin]
  simp only [Option.bind_some, if_true]
  rw [w64 (by omega) (by omega), lst_length, if_pos hm]
  exact key0 m K 0 (by omega) (by omega)
theorem rat_f (w h a b : Int) (F : Nat → Int) (h1 : 1 ≤ w ∧ w ≤ 4096 ∧ 1 ≤ h ∧ h ≤ 4096) : X.miradorref14_At.f w h (lst (w * h).toNat F) a b = some (atF w h F a b) := by
  have ha := area_le h1.1 h1.2.1 h1.2.2.1 h1.2.2.2
  unfold X.miradorref14_At.f atF
  by_cases a1 : a < 0
  · rw [if_pos a1, if_pos (by omega)]
  · by_cases a2 : b < 0
    · rw [if_neg a1, if_pos a2, if_pos (by omega)]
    · by_cases a3 : a ≥ w
      · rw [if_neg a1, if_neg a2, if_pos a3, if_pos (by omega)]
      · by_cases a4 : b ≥ h
        · rw [if_neg a1, if_neg a2, if_neg a3, if_pos a4, if_pos (by omega)]
        · obtain ⟨p0, p1, p2⟩ := place_le (w := w) (h := h) (x := a) (y := b) (by omega) (by omega) (by omega) (by omega)
          rw [if_neg a1, if_neg a2, if_neg a3, if_neg a4, w64 (x := b * w) (by omega) (by omega), w64 (x := b * w + a) (by omega) (by omega), if_pos (by omega), if_pos (by rw [lst_length]; omega), if_neg (by omega)]
          obtain ⟨q, hq⟩ : ∃ q : Nat, b * w + a = q := ⟨(b * w + a).toNat, by omega⟩
          rw [hq, lst_rd _ F q (by omega)]; rfl
end Go.Proofs.Ytjcibgopebpkiaa.SC
