/- The smallest rectangle: what the program answers. No condition. -/
import Derived.Test.YtkobiblgbpnlaaaRV
import Derived.Test.YtkobiblgbpnlaaaXx38
namespace Go.Proofs.Ytkobiblgbpnlaaa.RT
open Go.Proofs.Ytkobiblgbpnlaaa Go.Proofs.Ytkobiblgbpnlaaa.X Go.RowKit
set_option linter.unusedVariables false
set_option linter.unusedSimpArgs false
theorem fold_min : ∀ (l : List Int) (d : Int), l.foldl min d ≤ d ∧ (∀ z ∈ l, l.foldl min d ≤ z) ∧ (l.foldl min d = d ∨ l.foldl min d ∈ l)
  | [], d => ⟨Int.le_refl _, (fun z h => by cases h), .inl rfl⟩
  | a :: l, d => by
    obtain ⟨h1, h2, h3⟩ := fold_min l (min d a)
    rw [List.foldl_cons]
    refine ⟨Int.le_trans h1 (Int.min_le_left _ _), fun z hz => ?_, ?_⟩
    · rcases List.mem_cons.1 hz with rfl | h
      · exact Int.le_trans h1 (Int.min_le_right _ _)
      · exact h2 z h
    · rcases h3 with h3 | h3
      · rw [h3]
        by_cases hd : d ≤ a
        · exact .inl (Int.min_eq_left hd)
        · exact .inr (by rw [Int.min_eq_right (by omega)]; exact List.mem_cons_self)
      · exact .inr (List.mem_cons_of_mem _ h3)
theorem fold_max : ∀ (l : List Int) (d : Int), d ≤ l.foldl max d ∧ (∀ z ∈ l, z ≤ l.foldl max d) ∧ (l.foldl max d = d ∨ l.foldl max d ∈ l)
  | [], d => ⟨Int.le_refl _, (fun z h => by cases h), .inl rfl⟩
  | a :: l, d => by
    obtain ⟨h1, h2, h3⟩ := fold_max l (max d a)
    rw [List.foldl_cons]
    refine ⟨Int.le_trans (Int.le_max_left _ _) h1, fun z hz => ?_, ?_⟩
    · rcases List.mem_cons.1 hz with rfl | h
      · exact Int.le_trans (Int.le_max_right _ _) h1
      · exact h2 z h
    · rcases h3 with h3 | h3
      · rw [h3]
        by_cases hd : a ≤ d
        · exact .inl (Int.max_eq_left hd)
        · exact .inr (by rw [Int.max_eq_right (by omega)]; exact List.mem_cons_self)
      · exact .inr (List.mem_cons_of_mem _ h3)
theorem min_of (l : List Int) (h : l ≠ []) : Lib.minOf l ∈ l ∧ ∀ z ∈ l, Lib.minOf l ≤ z := by
  cases l with
  | nil => exact absurd rfl h
  | cons a l =>
    obtain ⟨h1, h2, h3⟩ := fold_min (a :: l) a
    refine ⟨?_, h2⟩
    rcases h3 with h3 | h3
    · show (a :: l).foldl min a ∈ _; rw [h3]; exact List.mem_cons_self
    · exact h3
theorem max_of (l : List Int) (h : l ≠ []) : Lib.maxOf l ∈ l ∧ ∀ z ∈ l, z ≤ Lib.maxOf l := by
  cases l with
  | nil => exact absurd rfl h
  | cons a l =>
    obtain ⟨h1, h2, h3⟩ := fold_max (a :: l) a
    refine ⟨?_, h2⟩
    rcases h3 with h3 | h3
    · show (a :: l).foldl max a ∈ _; rw [h3]; exact List.mem_cons_self
    · exact h3
def xendsS (l : List SR) : List Int := l.flatMap fun r => [r.f0, r.f0 + r.f2]
/-- The smallest rectangle, by its corners. -/
def hullS (l : List SR) : Int × Int × Int × Int := if l = [] then (0, 0, 0, 0) else (Lib.minOf (xendsS l), Lib.minOf (yendsS l), Lib.maxOf (xendsS l) - Lib.minOf (xendsS l), Lib.maxOf (yendsS l) - Lib.minOf (yendsS l))
theorem xends_len (l : List SR) : (xendsS l).length = 2 * l.length := by
  induction l with
  | nil => rfl
  | cons x l ih => simp only [xendsS, List.flatMap_cons, List.length_append, List.length_cons, List.length_nil] at ih ⊢; omega
theorem yends_len (l : List SR) : (yendsS l).length = 2 * l.length := by
  have := yendsS_len l l.length (Nat.le_refl _); rwa [List.take_length] at this
theorem xends_bd (l : List SR) (hc : ∀ r ∈ l, cntS r = true) : ∀ z ∈ xendsS l, B z := fun z hz => by
  obtain ⟨r, hr, h⟩ := List.mem_flatMap.1 hz
  have hcx := (cntS_iff r).1 (hc r hr)
  simp at h
  unfold B
  rcases h with rfl | rfl <;> omega
theorem yends_bd (l : List SR) (hc : ∀ r ∈ l, cntS r = true) : ∀ z ∈ yendsS l, B z := fun z hz => by
  obtain ⟨r, hr, h⟩ := List.mem_flatMap.1 hz
  have hcx := (cntS_iff r).1 (hc r hr)
  simp at h
  unfold B
  rcases h with rfl | rfl <;> omega
theorem bounds_l0 : ∀ (rest pre : List SR) (k : Nat), rest.length < k → (∀ r ∈ pre ++ rest, cntS r = true) → (pre ++ rest).length ≤ 1000000 →
    region_Bounds.l0 k (xendsS pre) (yendsS pre) (pre ++ rest) ((pre ++ rest).length : Int) (pre.length : Int) = some (hullS (pre ++ rest)) := by
  intro rest
  induction rest with
  | nil =>
    intro pre k hk hc hl
    obtain ⟨k, rfl⟩ : ∃ q, k = q + 1 := ⟨k - 1, by omega⟩
    rw [List.append_nil] at hc hl ⊢
    have hx := xends_len pre
    have hy := yends_len pre
    rw [region_Bounds.l0, if_neg (by omega)]
    cases pre with
    | nil => rfl
    | cons p pre =>
      have ex : xendsS (p :: pre) ≠ [] := fun h => by rw [h] at hx; simp at hx
      have ey : yendsS (p :: pre) ≠ [] := fun h => by rw [h] at hy; simp at hy
      have hp : (p :: pre).length = pre.length + 1 := rfl
      have b1 := xends_bd _ hc _ (min_of _ ex).1
      have b2 := xends_bd _ hc _ (max_of _ ex).1
      have b3 := yends_bd _ hc _ (min_of _ ey).1
      have b4 := yends_bd _ hc _ (max_of _ ey).1
      unfold B at b1 b2 b3 b4
      unfold slices_Min_int_int.f slices_Max_int_int.f
      rw [if_neg (by omega), if_pos (by omega), if_pos (by omega), if_pos (by omega), if_pos (by omega), Option.bind_some, Option.bind_some, Option.bind_some, Option.bind_some, wrap_id (by omega) (by omega), wrap_id (by omega) (by omega)]
      unfold hullS
      rw [if_neg (by simp)]
  | cons r rest ih =>
    intro pre k hk hc hl
    obtain ⟨k, rfl⟩ : ∃ q, k = q + 1 := ⟨k - 1, by omega⟩
    have e : pre ++ r :: rest = (pre ++ [r]) ++ rest := by simp
    have hcx := (cntS_iff r).1 (hc r (by simp))
    have h1 := ih (pre ++ [r]) k (by simp at hk; omega) (by rw [← e]; exact hc) (by rw [← e]; exact hl)
    have hx : xendsS (pre ++ [r]) = xendsS pre ++ [r.f0, r.f0 + r.f2] := by simp [xendsS]
    have hy : yendsS (pre ++ [r]) = yendsS pre ++ [r.f1, r.f1 + r.f3] := by simp [yendsS]
    have hp : (((pre ++ [r]).length : Nat) : Int) = ((pre.length + 1 : Nat) : Int) := by simp
    have l1 := xends_len pre
    have l2 := yends_len pre
    have l3 : pre.length ≤ 1000000 := by simp at hl; omega
    have hrd : rd_T26 (pre ++ r :: rest) (pre.length : Int) = r := by rw [rd26_at _ pre.length (by simp)]; simp
    rw [region_Bounds.l0, if_pos (by simp; omega), if_pos (by omega), if_pos (by simp; omega), hrd, Option.bind_some, if_pos (by simp; omega), Option.bind_some, if_pos (by simp; omega), wrap_next pre.length (by omega), wrap_id (x := r.f0 + r.f2) (by omega) (by omega), wrap_id (x := r.f1 + r.f3) (by omega) (by omega), ← hx, ← hy, ← hp, e, h1]
theorem bounds_f (k : Nat) (a : List SR) (hk : a.length < k) (hl : a.length ≤ 1000000) : region_Bounds.f k a = some (hullS (a.filter cntS)) := by
  unfold region_Bounds.f
  have h1 := filter_len a
  rw [counting_f a k hk (by omega), Option.bind_some]
  exact bounds_l0 (a.filter cntS) [] k (by omega) (by rw [List.nil_append]; exact counted a) (by rw [List.nil_append]; omega)
/-- What is true of the smallest rectangle. -/
structure Hul (a : List SR) (x0 y0 x1 y1 : Int) : Prop where
  x : -1048576 ≤ x0 ∧ x0 < x1 ∧ x1 ≤ 1048576
  y : -1048576 ≤ y0 ∧ y0 < y1 ∧ y1 ≤ 1048576
  all : ∀ x y, RG.has (a.map tr) x y = true → x0 ≤ x ∧ x < x1 ∧ y0 ≤ y ∧ y < y1
  left : ∃ y, RG.has (a.map tr) x0 y = true
  right : ∃ y, RG.has (a.map tr) (x1 - 1) y = true
  top : ∃ x, RG.has (a.map tr) x y0 = true
  down : ∃ x, RG.has (a.map tr) x (y1 - 1) = true
theorem has_of (a : List SR) (r : SR) (hr : r ∈ a) (hc : cntS r = true) (x y : Int) (h : r.f0 ≤ x ∧ x < r.f0 + r.f2 ∧ r.f1 ≤ y ∧ y < r.f1 + r.f3) : RG.has (a.map tr) x y = true :=
  (RG.has_iff _ _ _).2 ⟨tr r, List.mem_map_of_mem hr, (cnt_tr r).trans hc, h.2.2.1, h.2.2.2, h.1, h.2.1⟩
theorem hul_of (a : List SR) (h : a.filter cntS ≠ []) : Hul a (Lib.minOf (xendsS (a.filter cntS))) (Lib.minOf (yendsS (a.filter cntS))) (Lib.maxOf (xendsS (a.filter cntS))) (Lib.maxOf (yendsS (a.filter cntS))) := by
  have hc := counted a
  have hm : ∀ r ∈ a.filter cntS, r ∈ a := fun r hr => (List.mem_filter.1 hr).1
  have hal : ∀ x y, RG.has (a.map tr) x y = true → ∃ r ∈ a.filter cntS, r.f0 ≤ x ∧ x < r.f0 + r.f2 ∧ r.f1 ≤ y ∧ y < r.f1 + r.f3 := fun x y hxy => by
    obtain ⟨r, hr, hcr, g1, g2, g3, g4⟩ := (RG.has_iff _ _ _).1 hxy
    obtain ⟨q, hq, rfl⟩ := List.mem_map.1 hr
    exact ⟨q, List.mem_filter.2 ⟨hq, (cnt_tr q).symm.trans hcr⟩, g3, g4, g1, g2⟩
  obtain ⟨l, hl⟩ : ∃ l, a.filter cntS = l := ⟨_, rfl⟩
  rw [hl] at h hc hm hal ⊢
  have hlen : 0 < l.length := List.length_pos_iff.2 h
  have hx := xends_len l
  have hy := yends_len l
  have ex : xendsS l ≠ [] := fun h => by rw [h] at hx; simp at hx; omega
  have ey : yendsS l ≠ [] := fun h => by rw [h] at hy; simp at hy; omega
  have xin : ∀ r ∈ l, Lib.minOf (xendsS l) ≤ r.f0 ∧ r.f0 + r.f2 ≤ Lib.maxOf (xendsS l) := fun r hr => ⟨(min_of _ ex).2 _ (List.mem_flatMap.2 ⟨r, hr, by simp⟩), (max_of _ ex).2 _ (List.mem_flatMap.2 ⟨r, hr, by simp⟩)⟩
  have yin : ∀ r ∈ l, Lib.minOf (yendsS l) ≤ r.f1 ∧ r.f1 + r.f3 ≤ Lib.maxOf (yendsS l) := fun r hr => ⟨(min_of _ ey).2 _ (List.mem_flatMap.2 ⟨r, hr, by simp⟩), (max_of _ ey).2 _ (List.mem_flatMap.2 ⟨r, hr, by simp⟩)⟩
  have b1 := xends_bd _ hc _ (min_of _ ex).1
  have b2 := xends_bd _ hc _ (max_of _ ex).1
  have b3 := yends_bd _ hc _ (min_of _ ey).1
  have b4 := yends_bd _ hc _ (max_of _ ey).1
  unfold B at b1 b2 b3 b4
  obtain ⟨r1, hr1, e1⟩ : ∃ r ∈ l, Lib.minOf (xendsS l) = r.f0 := by
    obtain ⟨r, hr, e⟩ := List.mem_flatMap.1 (min_of _ ex).1
    have g := (cntS_iff r).1 (hc r hr)
    have g2 := xin r hr
    simp at e
    exact ⟨r, hr, by omega⟩
  obtain ⟨r2, hr2, e2⟩ : ∃ r ∈ l, Lib.maxOf (xendsS l) = r.f0 + r.f2 := by
    obtain ⟨r, hr, e⟩ := List.mem_flatMap.1 (max_of _ ex).1
    have g := (cntS_iff r).1 (hc r hr)
    have g2 := xin r hr
    simp at e
    exact ⟨r, hr, by omega⟩
  obtain ⟨r3, hr3, e3⟩ : ∃ r ∈ l, Lib.minOf (yendsS l) = r.f1 := by
    obtain ⟨r, hr, e⟩ := List.mem_flatMap.1 (min_of _ ey).1
    have g := (cntS_iff r).1 (hc r hr)
    have g2 := yin r hr
    simp at e
    exact ⟨r, hr, by omega⟩
  obtain ⟨r4, hr4, e4⟩ : ∃ r ∈ l, Lib.maxOf (yendsS l) = r.f1 + r.f3 := by
    obtain ⟨r, hr, e⟩ := List.mem_flatMap.1 (max_of _ ey).1
    have g := (cntS_iff r).1 (hc r hr)
    have g2 := yin r hr
    simp at e
    exact ⟨r, hr, by omega⟩
  have g1 := (cntS_iff r1).1 (hc r1 hr1)
  have g2 := (cntS_iff r2).1 (hc r2 hr2)
  have g3 := (cntS_iff r3).1 (hc r3 hr3)
  have g4 := (cntS_iff r4).1 (hc r4 hr4)
  have i1 := xin r1 hr1
  have i3 := yin r3 hr3
  refine ⟨⟨by omega, by omega, by omega⟩, ⟨by omega, by omega, by omega⟩, fun x y hxy => ?_, ?_, ?_, ?_, ?_⟩
  · obtain ⟨r, hr, q⟩ := hal x y hxy
    have p1 := xin r hr
    have p2 := yin r hr
    omega
  · exact ⟨r1.f1, has_of a r1 (hm r1 hr1) (hc r1 hr1) _ _ (by omega)⟩
  · exact ⟨r2.f1, has_of a r2 (hm r2 hr2) (hc r2 hr2) _ _ (by omega)⟩
  · exact ⟨r3.f0, has_of a r3 (hm r3 hr3) (hc r3 hr3) _ _ (by omega)⟩
  · exact ⟨r4.f0, has_of a r4 (hm r4 hr4) (hc r4 hr4) _ _ (by omega)⟩
end Go.Proofs.Ytkobiblgbpnlaaa.RT
