/- The law RegionForm: the walk, out of the print's contract, and its plain law. No condition. -/
-- OPEN 0 Go.Proofs.Ytkobiblgbpnlaaa.RQ.open_rects fa fb fc : ga gb
import Derived.Test.YtkobiblgbpnlaaaRV
import Derived.Test.YtkobiblgbpnlaaaRQ
import Derived.Test.YtkobiblgbpnlaaaXx22
namespace Go.Proofs.Ytkobiblgbpnlaaa.RT
open Go.Proofs.Ytkobiblgbpnlaaa Go.Proofs.Ytkobiblgbpnlaaa.X Go.RowKit Go.Proofs.YtkobiblgbpnlaaaW.PrintWords Go.Proofs.YtkobiblgbpnlaaaW.PrintLast Go.Proofs.YtkobiblgbpnlaaaW.PrintMore
set_option linter.unusedVariables false
set_option linter.unusedSimpArgs false
theorem reg_eqF {l m : List SR} {S T : Int → Int → Bool} (h : RG.IsReg (l.map tr) S) (k : RG.IsReg (m.map tr) T) (e : ∀ x y, S x y = T x y) : l = m := map_inj (h.unique k e)
theorem adj_get : ∀ (L : List RG.Rect), RG.AdjAll L → ∀ (j : Nat) (s r : RG.Rect), L[j]? = some s → L[j + 1]? = some r → RG.Adj s r
  | [], _, j, s, r, h, _ => by simp at h
  | [a], _, j, s, r, _, h => by simp at h
  | a :: b :: L, h, 0, s, r, h1, h2 => by
    simp at h1 h2
    subst h1 h2
    exact h.1
  | a :: b :: L, h, j + 1, s, r, h1, h2 => adj_get (b :: L) h.2 j s r (by simpa using h1) (by simpa using h2)
theorem has_mem (a b : List SR) (h : ∀ r, r ∈ b ↔ r ∈ a) (x y : Int) : RG.has (b.map tr) x y = RG.has (a.map tr) x y := by
  rw [Bool.eq_iff_iff, RG.has_iff, RG.has_iff]
  constructor
  · rintro ⟨r, hr, h2⟩
    obtain ⟨q, hq, rfl⟩ := List.mem_map.1 hr
    exact ⟨_, List.mem_map_of_mem ((h q).1 hq), h2⟩
  · rintro ⟨r, hr, h2⟩
    obtain ⟨q, hq, rfl⟩ := List.mem_map.1 hr
    exact ⟨_, List.mem_map_of_mem ((h q).2 hq), h2⟩
theorem form_end (k : Nat) (hk : 200000000 ≤ k) (a l back : List SR) (ha : a.length ≤ 12) (hl : l = combS keepMake a []) (hb : ∀ r, r ∈ back ↔ r ∈ a) (hbl : back.length ≤ 24) :
    miradorlaw15_RegionForm.l1 (k + 1) a true l (RG.area0 (l.map tr)) back (-1) = some true := by
  have l1 := comb_len keepMake a [] 12 (by simpa using ha)
  have l2 := comb_len keepMake back [] 24 (by simpa using hbl)
  have l3 := comb_len keepMake l [] 576 (by rw [hl]; simp; omega)
  have e1 : combS keepMake l [] = l := reg_eqF (reg_make l) (by rw [hl]; exact reg_make a) (fun x y => by rw [hl, has_make])
  have e2 : combS keepMake back [] = l := reg_eqF (reg_make back) (by rw [hl]; exact reg_make a) (fun x y => has_mem a back hb x y)
  have ht : RG.area0 (l.map tr) = RG.areaOf (fun x y => RG.has (a.map tr) x y) := by rw [hl]; exact (reg_make a).area
  rw [miradorlaw15_RegionForm.l1, if_neg (by decide), make_f l (by rw [hl]; omega), Option.bind_some, same_f _ _ _ e1 (by omega) (by omega), Option.bind_some, make_f back (by omega), Option.bind_some, same_f _ _ _ e2 (by omega) (by omega), Option.bind_some, if_pos rfl, if_pos rfl, if_pos rfl, area_f _ _ (by omega) (by omega), Option.bind_some, ht]
  simp
theorem form_l1 (a l : List SR) (ha : a.length ≤ 12) (hl : l = combS keepMake a []) : ∀ (m k : Nat) (back : List SR), m ≤ a.length → 200000001 + m ≤ k → (∀ r, r ∈ back ↔ r ∈ a.drop m) → back.length + 2 * m ≤ 24 →
    miradorlaw15_RegionForm.l1 k a true l (RG.area0 (l.map tr)) back ((m : Int) - 1) = some true := by
  intro m
  induction m with
  | zero =>
    intro k back _ hk hb hbl
    obtain ⟨k, rfl⟩ : ∃ q, k = q + 1 := ⟨k - 1, by omega⟩
    exact form_end k (by omega) a l back ha hl (fun r => by rw [hb r, List.drop_zero]) (by omega)
  | succ m ih =>
    intro k back hm hk hb hbl
    obtain ⟨k, rfl⟩ : ∃ q, k = q + 1 := ⟨k - 1, by omega⟩
    have hlt : m < a.length := by omega
    have e0 : (((m + 1 : Nat) : Int) - 1) = (m : Int) := by omega
    rw [e0, miradorlaw15_RegionForm.l1, if_pos (by omega), if_pos (by omega), if_pos (by omega), rd26_at a m hlt, Option.bind_some, if_pos (by simp; omega), wrap_id (x := (m : Int) - 1) (by omega) (by omega)]
    refine ih k _ (by omega) (by omega) (fun r => ?_) (by simp; omega)
    rw [List.mem_append, hb r, List.drop_eq_getElem_cons hlt, List.mem_cons]
    simp only [List.mem_cons, List.not_mem_nil, or_false]
    constructor
    · rintro (h | h | h)
      · exact .inr h
      · exact .inl h
      · exact .inl h
    · rintro (h | h)
      · exact .inr (.inl h)
      · exact .inl h
theorem form_l0 (a l : List SR) (ha : a.length ≤ 12) (hl : l = combS keepMake a []) : ∀ (m k i : Nat) (s : Int), i + m = l.length → 200000100 + 2 * m ≤ k → 0 ≤ s → s + RG.area0 ((l.drop i).map tr) = RG.area0 (l.map tr) →
    miradorlaw15_RegionForm.l0 k a true l s (i : Int) = some true := by
  have hreg := reg_make a
  rw [← hl] at hreg
  have hadj := hreg.adj
  have hcnt : ∀ r ∈ l, cntS r = true := fun r h => by rw [← cnt_tr]; exact hreg.counts _ (List.mem_map_of_mem h)
  have htop : RG.area0 (l.map tr) ≤ 4398046511104 := by rw [hreg.area]; exact RG.areaOf_top _
  have ll : l.length ≤ 576 := by rw [hl]; exact comb_len keepMake a [] 12 (by simpa using ha)
  intro m
  induction m with
  | zero =>
    intro k i s h hk hs ht
    obtain ⟨k, rfl⟩ : ∃ q, k = q + 1 := ⟨k - 1, by omega⟩
    rw [List.drop_of_length_le (by omega)] at ht
    have ht' : s = RG.area0 (l.map tr) := by simpa [RG.area0] using ht
    rw [miradorlaw15_RegionForm.l0, if_neg (by omega), wrap_id (by omega) (by omega), ht']
    exact form_l1 a l ha hl a.length k [] (Nat.le_refl _) (by omega) (fun r => by simp) (by simp; omega)
  | succ m ih =>
    intro k i s h hk hs ht
    obtain ⟨k, rfl⟩ : ∃ q, k = q + 2 := ⟨k - 2, by omega⟩
    have hlt : i < l.length := by omega
    have hcx := (cntS_iff _).1 (hcnt _ (List.getElem_mem hlt))
    rw [List.drop_eq_getElem_cons hlt, List.map_cons, RG.area0_cons] at ht
    have h3 : 0 ≤ l[i].f2 * l[i].f3 := Int.mul_nonneg (by omega) (by omega)
    have h4 := area_parts ((l.drop (i + 1)).map tr) (fun r hr => by
      obtain ⟨q, hq, rfl⟩ := List.mem_map.1 hr
      rw [cnt_tr]; exact hcnt q (List.mem_of_mem_drop hq))
    have h5 : (tr l[i]).2.2.1 * (tr l[i]).2.2.2 = l[i].f2 * l[i].f3 := rfl
    rw [h5] at ht
    have hnext : miradorlaw15_RegionForm.l0 k a true l (wrap64 (s + wrap64 (l[i].f2 * l[i].f3))) (wrap64 ((i : Int) + 1)) = some true := by
      rw [wrap_next i (by omega), wrap_id (x := l[i].f2 * l[i].f3) (by omega) (by omega), wrap_id (by omega) (by omega)]
      exact ih k (i + 1) _ (by omega) (by omega) (by omega) (by omega)
    rw [miradorlaw15_RegionForm.l0, if_pos (by omega), if_pos (by omega), rd26_at l i hlt, if_neg (by omega), decide_eq_false (by omega), miradorlaw15_RegionForm.j1, if_neg (by decide)]
    cases i with
    | zero => rw [if_pos (by rfl)]; exact hnext
    | succ j =>
      have hj : j < l.length := by omega
      have hA := adj_get _ hadj j (tr l[j]) (tr l[j + 1]) (by rw [List.getElem?_map, List.getElem?_eq_getElem hj]; rfl) (by rw [List.getElem?_map, List.getElem?_eq_getElem hlt]; rfl)
      have hcy := (cntS_iff _).1 (hcnt _ (List.getElem_mem hj))
      have e0 : wrap64 (((j + 1 : Nat) : Int) - 1) = (j : Int) := by rw [wrap_id (by omega) (by omega)]; omega
      rw [if_neg (by omega), e0, if_pos (by omega), if_pos (by omega), rd26_at l j hj]
      rw [wrap_id (x := l[j].f0 + l[j].f2) (by omega) (by omega), wrap_id (x := l[j].f1 + l[j].f3) (by omega) (by omega)]
      by_cases hy : l[j].f1 = l[j + 1].f1
      · obtain ⟨g1, g2⟩ := hA.1 hy
        have g1' : l[j].f3 = l[j + 1].f3 := g1
        have g2' : l[j].f0 + l[j].f2 < l[j + 1].f0 := g2
        rw [if_pos hy, if_pos g1', if_neg (by omega)]
        exact hnext
      · have g := hA.2 hy
        have g' : l[j].f1 + l[j].f3 ≤ l[j + 1].f1 := g
        rw [if_neg hy, if_neg (by omega)]
        exact hnext
theorem form_pure (k : Nat) (hk : 200000000 ≤ k) (a : List SR) : miradorlaw15_RegionForm.f (k + 3000) a = some true := by
  unfold miradorlaw15_RegionForm.f
  rw [works_f _ (by omega), Option.bind_some, if_pos rfl]
  by_cases ha : (a.length : Int) > 12
  · rw [if_pos ha]
  rw [if_neg ha, make_f a (by omega), Option.bind_some]
  have ll := comb_len keepMake a [] 12 (by simp; omega)
  exact form_l0 a _ (by omega) rfl (combS keepMake a []).length (k + 3000) 0 0 (by omega) (by omega) (Int.le_refl _) (by rw [List.drop_zero]; omega)
end Go.Proofs.Ytkobiblgbpnlaaa.RT
namespace Go.Proofs.Ytkobiblgbpnlaaa.H
open Go.RowKit Go.Proofs.YtkobiblgbpnlaaaW.PrintWords
theorem RegionForm_walk (fa0 : Option Addr) (fb0 : Nat) (fc0 : List X.S26) (W : World) (ga0 : fc0.length ≤ fb0) (gb0 : Kd.C X.k26 W fa0 fc0.length fc0) :
    Calls Try.prog 3 #[.slice fa0 fc0.length fb0] W fun e w' => e = .returned (.bool true) ∧ Below W.heap.size W w' :=
  X.miradorlaw15_RegionForm.calls1 (200000000 + 3000) fa0 fb0 fc0 true W gb0 ga0 rfl (RT.form_pure 200000000 (by decide) fc0)
end Go.Proofs.Ytkobiblgbpnlaaa.H
