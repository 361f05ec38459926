/- The program's regions, function by function, in plain words. No condition. -/
import Derived.Test.YtkobiblgbpnlaaaRT
namespace Go.Proofs.Ytkobiblgbpnlaaa.RT
open Go.Proofs.Ytkobiblgbpnlaaa Go.Proofs.Ytkobiblgbpnlaaa.X
set_option linter.unusedVariables false
set_option linter.unusedSimpArgs false
theorem fold_len (kp : Bool → Bool → Bool) (a b : List SR) (n : Nat) (hn : a.length + b.length ≤ n) : ∀ (ks : List Nat) (L : List Int) (st : CBS), (ks.foldl (fun o k => stepB kp a b o (L.getD k 0) (L.getD (k + 1) 0)) st).1.length + (ks.foldl (fun o k => stepB kp a b o (L.getD k 0) (L.getD (k + 1) 0)) st).2.2.2.length ≤ st.1.length + st.2.2.2.length + ks.length * (2 * n)
  | [], L, st => by simp
  | k :: ks, L, st => by
    rw [List.foldl_cons, List.length_cons]
    refine Nat.le_trans (fold_len kp a b n hn ks L _) ?_
    have h3 := rowS_len kp (piecesS a (L.getD k 0)) (piecesS b (L.getD k 0))
    have h4 := pieces_len a (L.getD k 0)
    have h5 := pieces_len b (L.getD k 0)
    have e := Nat.add_mul ks.length 1 (2 * n)
    rw [Nat.one_mul] at e
    rw [e]
    generalize ks.length * (2 * n) = q
    unfold stepB
    split
    · simp only; omega
    · simp only [List.length_append, rects_len]; omega
theorem comb_len (kp : Bool → Bool → Bool) (a b : List SR) (n : Nat) (hn : a.length + b.length ≤ n) : (combS kp a b).length ≤ (2 * n) * (2 * n) := by
  have hf : (a.filter cntS).length + (b.filter cntS).length ≤ n := by have := filter_len a; have := filter_len b; omega
  have h1 := fold_len kp (a.filter cntS) (b.filter cntS) n hf (List.range ((srtL (yendsS (a.filter cntS ++ b.filter cntS))).length - 1)) (srtL (yendsS (a.filter cntS ++ b.filter cntS))) ([], 0, 0, [])
  have h2 := srtL_le (yendsS (a.filter cntS ++ b.filter cntS))
  have h3 := yendsS_len (a.filter cntS ++ b.filter cntS) (a.filter cntS ++ b.filter cntS).length (Nat.le_refl _)
  rw [List.take_length, List.length_append] at h3
  rw [List.length_range] at h1
  have h4 : ((srtL (yendsS (a.filter cntS ++ b.filter cntS))).length - 1) * (2 * n) ≤ (2 * n) * (2 * n) := Nat.mul_le_mul_right _ (by omega)
  unfold combS combE combL
  rw [List.length_append, rects_len]
  simp only [List.length_nil, Nat.zero_add] at h1
  omega
theorem has_f (k : Nat) (l : List SR) (x y : Int) (hk : l.length < k) (hl : l.length ≤ 1000000000) : region_Has.f k l x y = some (RG.has (l.map tr) x y) := by
  unfold region_Has.f
  have h1 := filter_len l
  have h2 := pieces_len (l.filter cntS) y
  rw [counting_f l k hk hl, Option.bind_some, pieces_f _ y (counted l) k (by omega) (by omega), Option.bind_some]
  unfold region_in.f
  rw [if_pos (by omega), Option.bind_some]
  unfold RG.has
  rw [counting_tr, pieces_tr, inn_ts]
theorem make_f (l : List SR) (h : l.length ≤ 5000) : region_Make.f l = some (combS keepMake l []) := by unfold region_Make.f; rw [if_pos h]
theorem union_f (a b : List SR) (h : a.length + b.length ≤ 5000) : region_Union.f a b = some (combS keepUnion a b) := by unfold region_Union.f; rw [if_pos h]
theorem minus_f (a b : List SR) (h : a.length + b.length ≤ 5000) : region_Minus.f a b = some (combS keepMinus a b) := by unfold region_Minus.f; rw [if_pos h]
theorem both_f (a b : List SR) (h : a.length + b.length ≤ 5000) : region_Both.f a b = some (combS keepBoth a b) := by unfold region_Both.f; rw [if_pos h]
theorem has_nil (x y : Int) : RG.has (([] : List SR).map tr) x y = false := rfl
theorem reg_make (a : List SR) : RG.IsReg ((combS keepMake a []).map tr) (fun x y => RG.has (a.map tr) x y) := reg_comb keepMake rfl a []
theorem reg_union (a b : List SR) : RG.IsReg ((combS keepUnion a b).map tr) (fun x y => RG.has (a.map tr) x y || RG.has (b.map tr) x y) := reg_comb keepUnion rfl a b
theorem reg_minus (a b : List SR) : RG.IsReg ((combS keepMinus a b).map tr) (fun x y => RG.has (a.map tr) x y && !RG.has (b.map tr) x y) := reg_comb keepMinus rfl a b
theorem reg_both (a b : List SR) : RG.IsReg ((combS keepBoth a b).map tr) (fun x y => RG.has (a.map tr) x y && RG.has (b.map tr) x y) := reg_comb keepBoth rfl a b
theorem has_make (a : List SR) (x y : Int) : RG.has ((combS keepMake a []).map tr) x y = RG.has (a.map tr) x y := (reg_make a).has x y
theorem has_union (a b : List SR) (x y : Int) : RG.has ((combS keepUnion a b).map tr) x y = (RG.has (a.map tr) x y || RG.has (b.map tr) x y) := (reg_union a b).has x y
theorem has_minus (a b : List SR) (x y : Int) : RG.has ((combS keepMinus a b).map tr) x y = (RG.has (a.map tr) x y && !RG.has (b.map tr) x y) := (reg_minus a b).has x y
theorem has_both (a b : List SR) (x y : Int) : RG.has ((combS keepBoth a b).map tr) x y = (RG.has (a.map tr) x y && RG.has (b.map tr) x y) := (reg_both a b).has x y
theorem same_l0 (l : List SR) : ∀ (m k i : Nat), i + m = l.length → m < k → i + m ≤ 1000000000 → miradorref15_Same.l0 k l l (i : Int) = some true := by
  intro m
  induction m with
  | zero =>
    intro k i h hk _
    obtain ⟨k, rfl⟩ : ∃ q, k = q + 1 := ⟨k - 1, by omega⟩
    rw [miradorref15_Same.l0, if_neg (by omega)]
  | succ m ih =>
    intro k i h hk hi
    obtain ⟨k, rfl⟩ : ∃ q, k = q + 1 := ⟨k - 1, by omega⟩
    rw [miradorref15_Same.l0, if_pos (by omega), if_pos (by omega), if_pos (by omega), if_neg (by simp), wrap_next i (by omega), ih k (i + 1) (by omega) (by omega) (by omega)]
theorem same_f (k : Nat) (a b : List SR) (h : a = b) (hk : a.length < k) (hl : a.length ≤ 1000000000) : miradorref15_Same.f k a b = some true := by
  subst h
  unfold miradorref15_Same.f
  rw [if_pos rfl]
  exact same_l0 a a.length k 0 (by omega) hk (by omega)
theorem area_parts : ∀ (l : List RG.Rect), (∀ r ∈ l, RG.cnt r = true) → 0 ≤ RG.area0 l
  | [], _ => Int.le_refl _
  | r :: l, h => by
    rw [RG.area0_cons]
    have h1 := area_parts l (fun r hr => h r (List.mem_cons_of_mem _ hr))
    have h2 := (RG.cnt_iff r).1 (h r List.mem_cons_self)
    have h3 : 0 ≤ r.2.2.1 * r.2.2.2 := Int.mul_nonneg (by omega) (by omega)
    omega
theorem area_l0 (l : List SR) (hc : ∀ r ∈ l, cntS r = true) : ∀ (m k i : Nat) (s : Int), i + m = l.length → m < k → i + m ≤ 1000000000 → 0 ≤ s → s + RG.area0 ((l.drop i).map tr) ≤ 4398046511104 → region_Area.l0 k s l (l.length : Int) (i : Int) = some (s + RG.area0 ((l.drop i).map tr)) := by
  intro m
  induction m with
  | zero =>
    intro k i s h hk _ _ _
    obtain ⟨k, rfl⟩ : ∃ q, k = q + 1 := ⟨k - 1, by omega⟩
    rw [region_Area.l0, if_neg (by omega), List.drop_of_length_le (by omega)]
    simp [RG.area0]
  | succ m ih =>
    intro k i s h hk hi hs hb
    obtain ⟨k, rfl⟩ : ∃ q, k = q + 1 := ⟨k - 1, by omega⟩
    have hlt : i < l.length := by omega
    have hcx := (cntS_iff _).1 (hc _ (List.getElem_mem hlt))
    rw [List.drop_eq_getElem_cons hlt, List.map_cons, RG.area0_cons] at hb ⊢
    have h3 : 0 ≤ l[i].f2 * l[i].f3 := Int.mul_nonneg (by omega) (by omega)
    have h4 := area_parts ((l.drop (i + 1)).map tr) (fun r hr => by
      obtain ⟨q, hq, rfl⟩ := List.mem_map.1 hr
      rw [cnt_tr]; exact hc q (List.mem_of_mem_drop hq))
    have h5 : (tr l[i]).2.2.1 * (tr l[i]).2.2.2 = l[i].f2 * l[i].f3 := rfl
    rw [h5] at hb ⊢
    rw [region_Area.l0, if_pos (by omega), if_pos (by omega), if_pos (by omega), rd26_at l i hlt, wrap_next i (by omega), wrap_id (x := l[i].f2 * l[i].f3) (by omega) (by omega), wrap_id (x := s + l[i].f2 * l[i].f3) (by omega) (by omega), ih k (i + 1) _ (by omega) (by omega) (by omega) (by omega) (by omega)]
    congr 1
    omega
/-- How many places: what the program reckons is what the theory counts. -/
theorem area_f (k : Nat) (l : List SR) (hl : l.length ≤ 5000) (hk : 100000000 < k) : region_Area.f k l = some (RG.areaOf (fun x y => RG.has (l.map tr) x y)) := by
  unfold region_Area.f
  rw [make_f l hl, Option.bind_some]
  have hr := reg_make l
  have hlen := comb_len keepMake l [] 5000 (by simpa using hl)
  have hc : ∀ r ∈ combS keepMake l [], cntS r = true := fun r h => by rw [← cnt_tr]; exact hr.counts _ (List.mem_map_of_mem h)
  have ha := hr.area
  have ht := RG.areaOf_top (fun x y => RG.has (l.map tr) x y)
  have h := area_l0 (combS keepMake l []) hc (combS keepMake l []).length k 0 0 (by omega) (by omega) (by omega) (Int.le_refl _) (by rw [List.drop_zero, ha]; omega)
  rw [List.drop_zero, ha, Int.zero_add] at h
  exact h
end Go.Proofs.Ytkobiblgbpnlaaa.RT
