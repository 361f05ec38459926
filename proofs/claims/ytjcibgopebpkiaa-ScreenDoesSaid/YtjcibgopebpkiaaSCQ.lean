/- A screen by its places: the document's Part, Move, Resize, in plain form. No condition. -/
import Derived.Test.YtjcibgopebpkiaaSCR
namespace Go.Proofs.Ytjcibgopebpkiaa.SC
open Go.RowKit Go.Proofs.YtjcibgopebpkiaaW.PrintWords Go.Proofs.YtjcibgopebpkiaaW.PrintLast Go.Proofs.YtjcibgopebpkiaaW.PrintMore Go.Proofs.Ytjcibgopebpkiaa.B Go.Proofs.Ytjcibgopebpkiaa.SCP
set_option linter.unusedVariables false
set_option linter.unusedSimpArgs false
theorem rpart_f (K : Nat) (hK : 40000000 ≤ K) (w h x y rw rh : Int) (F : Nat → Int) (h1 : 1 ≤ w ∧ w ≤ 4096 ∧ 1 ≤ h ∧ h ≤ 4096) (hin : inside x y rw rh w h) :
    X.miradorref14_Part.f K w h (lst (w * h).toNat F) x y rw rh = some (lst (rh * rw).toNat (partF w x y F rw.toNat), 0) := by
  have ha := area_le h1.1 h1.2.1 h1.2.2.1 h1.2.2.2
  have hi2 := fun i hi => rin_i h1 hin i hi
  have hr := rect_le h1 hin
  obtain ⟨n, hn⟩ : ∃ n : Nat, w * h = n := ⟨(w * h).toNat, by omega⟩
  have hcn := cnt_all h1 hin n hn
  rw [hn, Int.toNat_natCast] at hi2 ⊢
  have key : ∀ (d k i c : Nat), i + d = n → d < k → cnt w x y rw rh i = c → c ≤ i → X.miradorref14_Part.l0 k (lst c (partF w x y F rw.toNat)) i w h (lst n F) x y rw rh = some (lst (rh * rw).toNat (partF w x y F rw.toNat), 0) := by
    intro d
    induction d with
    | zero =>
      intro k i c hd hk hc hci
      obtain ⟨k, rfl⟩ : ∃ m, k = m + 1 := ⟨k - 1, by omega⟩
      obtain rfl : i = n := by omega
      simp only [X.miradorref14_Part.l0]
      rw [lst_length, if_neg (by omega), show (rh * rw).toNat = c by omega]
    | succ d ih =>
      intro k i c hd hk hc hci
      obtain ⟨k, rfl⟩ : ∃ m, k = m + 1 := ⟨k - 1, by omega⟩
      have hs := cnt_succ h1 hin i
      simp only [X.miradorref14_Part.l0]
      rw [lst_length, if_pos (by omega), if_neg (by omega), hi2 i (by omega)]
      simp only [Option.bind_some]
      by_cases hR : inR w x y rw rh i = true
      · have := ih k (i + 1) (c + 1) (by omega) (by omega) (by rw [hs, if_pos hR, hc]; push_cast; rfl) (by omega)
        rw [lst_succ, cnt_in h1 hin i hR F c hc] at this
        rw [if_pos hR, if_pos (by omega), if_pos (by rw [lst_length]; omega), w64n (n := n) (by omega) (by omega), lst_rd n F i (by omega)]; exact this
      · have := ih k (i + 1) c (by omega) (by omega) (by rw [hs, if_neg hR, hc]; omega) (by omega)
        rw [if_neg hR, w64n (n := n) (by omega) (by omega)]; exact this
  unfold X.miradorref14_Part.f
  rw [rinside_f _ _ _ _ _ _ h1, decide_eq_true hin]
  exact key n K 0 0 (by omega) (by omega) (by rw [cnt_zero h1 hin]; rfl) (by omega)
theorem rpart_out (K : Nat) (w h x y rw rh : Int) (l : List Int) (h1 : 1 ≤ w ∧ w ≤ 4096 ∧ 1 ≤ h ∧ h ≤ 4096) (hin : ¬ inside x y rw rh w h) : X.miradorref14_Part.f K w h l x y rw rh = some ([], 140) := by
  unfold X.miradorref14_Part.f
  rw [rinside_f _ _ _ _ _ _ h1, decide_eq_false hin]; rfl
theorem rmove_f (K : Nat) (hK : 40000001 ≤ K) (w h x y rw rh tx ty : Int) (F : Nat → Int) (h1 : 1 ≤ w ∧ w ≤ 4096 ∧ 1 ≤ h ∧ h ≤ 4096) (hin : inside x y rw rh w h) (hin2 : inside tx ty rw rh w h) (hF : ∀ i, i < (w * h).toNat → isC (F i) = true) :
    X.miradorref14_Move.f K w h (lst (w * h).toNat F) x y rw rh tx ty rw rh = some (w, h, lst (w * h).toNat (blitF w tx ty rw rh F (partF w x y F rw.toNat)), 0) := by
  have hr := rect_le h1 hin
  obtain ⟨K, rfl⟩ : ∃ m, K = m + 1 := ⟨K - 1, by omega⟩
  unfold X.miradorref14_Move.f
  rw [rpart_f (K + 1) (by omega) w h x y rw rh F h1 hin]
  simp only [Option.bind_some, if_true]
  rw [rinside_f _ _ _ _ _ _ h1, decide_eq_true hin2]
  simp only [Option.bind_some, X.miradorref14_Move.j0, Bool.not_true]
  rw [if_neg (by decide), if_pos trivial, if_pos trivial, rblit_f K (by omega) w h tx ty rw rh F _ _ h1 hin2 (by rw [Int.mul_comm rh rw]; omega) (by
    rw [List.all_eq_true]
    intro v hv
    obtain ⟨i, hi, rfl⟩ := List.mem_map.1 hv
    exact partF_isC h1 hin hF i (by have := List.mem_range.1 hi; omega))]
  rfl
theorem rmove_out (K : Nat) (hK : 40000001 ≤ K) (w h x y rw rh tx ty tw th : Int) (l : List Int) (h1 : 1 ≤ w ∧ w ≤ 4096 ∧ 1 ≤ h ∧ h ≤ 4096) (hin : ¬ inside x y rw rh w h) : X.miradorref14_Move.f K w h l x y rw rh tx ty tw th = some (w, h, l, 140) := by
  obtain ⟨K, rfl⟩ : ∃ m, K = m + 1 := ⟨K - 1, by omega⟩
  unfold X.miradorref14_Move.f
  rw [rpart_out _ _ _ _ _ _ _ _ h1 hin]
  simp only [Option.bind_some]
  rw [if_neg (by decide)]
  simp only [X.miradorref14_Move.j0, if_true]
theorem rmove_odd2 (K : Nat) (hK : 40000001 ≤ K) (w h x y rw rh tx ty tw th : Int) (F : Nat → Int) (h1 : 1 ≤ w ∧ w ≤ 4096 ∧ 1 ≤ h ∧ h ≤ 4096) (hin : inside x y rw rh w h) (hin2 : ¬ inside tx ty tw th w h) : X.miradorref14_Move.f K w h (lst (w * h).toNat F) x y rw rh tx ty tw th = some (w, h, lst (w * h).toNat F, 140) := by
  obtain ⟨K, rfl⟩ : ∃ m, K = m + 1 := ⟨K - 1, by omega⟩
  unfold X.miradorref14_Move.f
  rw [rpart_f (K + 1) (by omega) w h x y rw rh F h1 hin]
  simp only [Option.bind_some, if_true]
  rw [rinside_f _ _ _ _ _ _ h1, decide_eq_false hin2]
  simp only [Option.bind_some, X.miradorref14_Move.j0, Bool.not_false, if_true]
theorem rmove_odd1 (K : Nat) (hK : 40000001 ≤ K) (w h x y rw rh tx ty tw th : Int) (F : Nat → Int) (h1 : 1 ≤ w ∧ w ≤ 4096 ∧ 1 ≤ h ∧ h ≤ 4096) (hin : inside x y rw rh w h) (hin2 : inside tx ty tw th w h) (hne : rw ≠ tw ∨ rh ≠ th) : X.miradorref14_Move.f K w h (lst (w * h).toNat F) x y rw rh tx ty tw th = some (w, h, lst (w * h).toNat F, 1) := by
  obtain ⟨K, rfl⟩ : ∃ m, K = m + 1 := ⟨K - 1, by omega⟩
  unfold X.miradorref14_Move.f
  rw [rpart_f (K + 1) (by omega) w h x y rw rh F h1 hin]
  simp only [Option.bind_some, if_true]
  rw [rinside_f _ _ _ _ _ _ h1, decide_eq_true hin2]
  simp only [Option.bind_some, X.miradorref14_Move.j0, Bool.not_true]
  rw [if_neg (by decide)]
  by_cases hw : rw = tw
  · rw [if_pos hw, if_neg (hne.resolve_left (fun h => h hw))]
  · rw [if_neg hw]
theorem rresize_f (K : Nat) (hK : 40000001 ≤ K) (w h w2 h2 : Int) (F : Nat → Int) (h1 : 1 ≤ w ∧ w ≤ 4096 ∧ 1 ≤ h ∧ h ≤ 4096) (hb : 1 ≤ w2 ∧ w2 ≤ 4096 ∧ 1 ≤ h2 ∧ h2 ≤ 4096) :
    X.miradorref14_Resize.f K w h (lst (w * h).toNat F) w2 h2 = some (w2, h2, lst (w2 * h2).toNat (resF w h F w2), 0) := by
  have ha := area_le hb.1 hb.2.1 hb.2.2.1 hb.2.2.2
  have hat := fun a b => rat_f w h a b F h1
  obtain ⟨n, hn⟩ : ∃ n : Nat, w2 * h2 = n := ⟨(w2 * h2).toNat, by omega⟩
  have key : ∀ (d k i : Nat), i + d = n → d < k → X.miradorref14_Resize.l0 k w2 h2 i w h (lst (w * h).toNat F) w2 h2 (lst i (resF w h F w2)) = some (w2, h2, lst n (resF w h F w2), 0) := by
    intro d
    induction d with
    | zero =>
      intro k i hd hk
      obtain ⟨k, rfl⟩ : ∃ m, k = m + 1 := ⟨k - 1, by omega⟩
      obtain rfl : i = n := by omega
      simp only [X.miradorref14_Resize.l0]
      rw [hn, w64 (by omega) (by omega), if_neg (by omega)]
    | succ d ih =>
      intro k i hd hk
      obtain ⟨k, rfl⟩ : ∃ m, k = m + 1 := ⟨k - 1, by omega⟩
      have := ih k (i + 1) (by omega) (by omega)
      rw [lst_succ] at this
      have hdv : 0 ≤ (i : Int) / w2 ∧ (i : Int) / w2 ≤ i := ⟨Int.ediv_nonneg (by omega) (by omega), Int.ediv_le_self _ (by omega)⟩
      simp only [X.miradorref14_Resize.l0]
      rw [hn, w64 (x := (n : Int)) (by omega) (by omega), if_pos (by omega), if_neg (by omega), hat]
      simp only [Option.bind_some]
      rw [if_pos (by rw [lst_length]; omega), w64n (n := n) (by omega) (by omega), Int.tmod_eq_emod_of_nonneg (by omega), Int.tdiv_eq_ediv_of_nonneg (by omega), w64 (x := (i : Int) / w2) (by omega) (by omega)]
      exact this
  obtain ⟨K, rfl⟩ : ∃ m, K = m + 1 := ⟨K - 1, by omega⟩
  unfold X.miradorref14_Resize.f
  rw [rside_f, rside_f, decide_eq_true ⟨hb.1, hb.2.1⟩, decide_eq_true ⟨hb.2.2.1, hb.2.2.2⟩]
  simp only [Option.bind_some, if_true, X.miradorref14_Resize.j0, Bool.not_true]
  rw [if_neg (by decide), hn, Int.toNat_natCast]
  exact key n K 0 (by omega) (by omega)
theorem rresize_bad (K : Nat) (hK : 40000001 ≤ K) (w h w2 h2 : Int) (l : List Int) (hb : ¬ (1 ≤ w2 ∧ w2 ≤ 4096 ∧ 1 ≤ h2 ∧ h2 ≤ 4096)) :
    X.miradorref14_Resize.f K w h l w2 h2 = some (w, h, l, 1) := by
  obtain ⟨K, rfl⟩ : ∃ m, K = m + 1 := ⟨K - 1, by omega⟩
  unfold X.miradorref14_Resize.f
  rw [rside_f, rside_f]
  by_cases h1 : 1 ≤ w2 ∧ w2 ≤ 4096
  · rw [decide_eq_true h1, decide_eq_false (fun h => hb ⟨h1.1, h1.2, h⟩)]
    simp only [Option.bind_some, if_true, X.miradorref14_Resize.j0, Bool.not_false]
  · rw [decide_eq_false h1]
    simp only [Option.bind_some]
    rw [if_neg (by decide)]
    simp only [X.miradorref14_Resize.j0, if_true]
end Go.Proofs.Ytjcibgopebpkiaa.SC
