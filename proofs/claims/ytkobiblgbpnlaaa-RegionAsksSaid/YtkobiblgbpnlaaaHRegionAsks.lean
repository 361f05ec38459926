/- The law RegionAsks: the walk, out of the print's contract, and its plain law. No condition. -/
-- OPEN 0 Go.Proofs.Ytkobiblgbpnlaaa.RQ.open_rects fa fb fc : ga gb
import Derived.Test.YtkobiblgbpnlaaaRE
import Derived.Test.YtkobiblgbpnlaaaRS
import Derived.Test.YtkobiblgbpnlaaaRQ
import Derived.Test.YtkobiblgbpnlaaaXx43
namespace Go.Proofs.Ytkobiblgbpnlaaa.RT
open Go.Proofs.Ytkobiblgbpnlaaa Go.Proofs.Ytkobiblgbpnlaaa.X Go.RowKit Go.Proofs.YtkobiblgbpnlaaaW.PrintWords Go.Proofs.YtkobiblgbpnlaaaW.PrintLast Go.Proofs.YtkobiblgbpnlaaaW.PrintMore
set_option linter.unusedVariables false
set_option linter.unusedSimpArgs false
theorem reg_eqK {l m : List SR} {S T : Int → Int → Bool} (h : RG.IsReg (l.map tr) S) (k : RG.IsReg (m.map tr) T) (e : ∀ x y, S x y = T x y) : l = m := map_inj (h.unique k e)
theorem dcomb_make (a : List SR) : dcomb 0 a [] = combS keepMake a [] := reg_eqK (dcomb_reg 0 a []) (reg_make a) (fun x y => by rw [has_nil]; unfold kop; rw [if_pos rfl, Bool.or_false])
theorem dshift_l0 (dx dy : Int) (hx : -2097152 ≤ dx ∧ dx ≤ 2097152) (hy : -2097152 ≤ dy ∧ dy ≤ 2097152) : ∀ (rest pre : List SR) (k : Nat), 60000000001 + rest.length < k → (∀ r ∈ rest, cntS r = true) → pre.length + rest.length ≤ 10000 →
    miradorref15_Shift.l0 k dx dy (pre ++ rest) (pre.map (shS dx dy)) (pre.length : Int) = some (dcomb 0 ((pre ++ rest).map (shS dx dy)) []) := by
  intro rest
  induction rest with
  | nil =>
    intro pre k hk _ hl
    obtain ⟨k, rfl⟩ : ∃ q, k = q + 1 := ⟨k - 1, by omega⟩
    simp only [List.length_nil] at hk hl
    rw [miradorref15_Shift.l0, if_neg (by simp), dcomb_f k (by omega) 0 _ [] (by simp; omega), Option.bind_some, List.append_nil]
  | cons r rest ih =>
    intro pre k hk hc hl
    simp only [List.length_cons] at hk hl
    obtain ⟨k, rfl⟩ : ∃ q, k = q + 1 := ⟨k - 1, by omega⟩
    have hcx := (cntS_iff r).1 (hc r List.mem_cons_self)
    have h1 := ih (pre ++ [r]) k (by omega) (fun q hq => hc q (List.mem_cons_of_mem _ hq)) (by simp; omega)
    have hp : (((pre ++ [r]).length : Nat) : Int) = ((pre.length + 1 : Nat) : Int) := by simp
    have e : pre ++ r :: rest = (pre ++ [r]) ++ rest := by simp
    have e2 : (pre ++ [r]).map (shS dx dy) = pre.map (shS dx dy) ++ [⟨r.f0 + dx, r.f1 + dy, r.f2, r.f3⟩] := by simp [shS]
    rw [miradorref15_Shift.l0, if_pos (by simp; omega), if_pos (by omega), if_pos (by rw [List.length_map]; omega), rd_mid, wrap_next pre.length (by omega), wrap_id (x := r.f0 + dx) (by omega) (by omega), wrap_id (x := r.f1 + dy) (by omega) (by omega), ← e2, ← hp, e, h1]
theorem darea_l0 (l : List SR) (hc : ∀ r ∈ l, cntS r = true) : ∀ (m k i : Nat) (s : Int), i + m = l.length → m < k → i + m ≤ 1000000000 → 0 ≤ s → s + RG.area0 ((l.drop i).map tr) ≤ 4398046511104 → miradorref15_Area.l0 k s l (i : Int) = some (s + RG.area0 ((l.drop i).map tr)) := by
  intro m
  induction m with
  | zero =>
    intro k i s h hk _ _ _
    obtain ⟨k, rfl⟩ : ∃ q, k = q + 1 := ⟨k - 1, by omega⟩
    rw [miradorref15_Area.l0, if_neg (by omega), List.drop_of_length_le (by omega)]
    simp [RG.area0]
  | succ m ih =>
    intro k i s h hk hi hs hb
    obtain ⟨k, rfl⟩ : ∃ q, k = q + 1 := ⟨k - 1, by omega⟩
    have hlt : i < l.length := by omega
    have hcx := (cntS_iff _).1 (hc _ (List.getElem_mem hlt))
    rw [List.drop_eq_getElem_cons hlt, List.map_cons, RG.area0_cons] at hb ⊢
    have h3 : 0 ≤ l[i].f2 * l[i].f3 := Int.mul_nonneg (by omega) (by omega)
    have h4 := area_parts ((l.drop (i + 1)).map tr) (fun r hr => by
      obtain ⟨q, hq, rfl⟩ := List.mem_map.1 hr
      rw [cnt_tr]; exact hc q (List.mem_of_mem_drop hq))
    have h5 : (tr l[i]).2.2.1 * (tr l[i]).2.2.2 = l[i].f2 * l[i].f3 := rfl
    rw [h5] at hb ⊢
    rw [miradorref15_Area.l0, if_pos (by omega), if_pos (by omega), rd26_at l i hlt, wrap_next i (by omega), wrap_id (x := l[i].f2 * l[i].f3) (by omega) (by omega), wrap_id (x := s + l[i].f2 * l[i].f3) (by omega) (by omega), ih k (i + 1) _ (by omega) (by omega) (by omega) (by omega) (by omega)]
    congr 1
    omega
theorem darea_f (k : Nat) (hk : 60000000001 < k) (a : List SR) (ha : a.length ≤ 12) : miradorref15_Area.f k a = some (RG.areaOf (fun x y => RG.has (a.map tr) x y)) := by
  unfold miradorref15_Area.f
  rw [dcomb_f k (by omega) 0 a [] (by simp; omega), Option.bind_some, dcomb_make]
  have hr := reg_make a
  have hlen := comb_len keepMake a [] 12 (by simpa using ha)
  have hc : ∀ r ∈ combS keepMake a [], cntS r = true := fun r h => by rw [← cnt_tr]; exact hr.counts _ (List.mem_map_of_mem h)
  have ha := hr.area
  have ht := RG.areaOf_top (fun x y => RG.has (a.map tr) x y)
  have h := darea_l0 (combS keepMake a []) hc (combS keepMake a []).length k 0 0 (by omega) (by omega) (by omega) (Int.le_refl _) (by rw [List.drop_zero, ha]; omega)
  rw [List.drop_zero, ha, Int.zero_add] at h
  exact h
theorem last_get : ∀ (L : List Int) (a : Int), (a :: L)[L.length]? = some (RG.lastOf a L)
  | [], a => rfl
  | b :: L, a => by
    have := last_get L b
    show (b :: L)[L.length]? = _
    exact this
theorem rise_ends (M : List Int) (h : M ≠ []) : 0 < (RG.isrt M).length ∧ rd (RG.isrt M) 0 = Lib.minOf M ∧ rd (RG.isrt M) (((RG.isrt M).length : Int) - 1) = Lib.maxOf M := by
  obtain ⟨hr, hm⟩ := RG.isrt_sorted M
  obtain ⟨m1, m2⟩ := min_of M h
  obtain ⟨x1, x2⟩ := max_of M h
  obtain ⟨L, hL⟩ : ∃ L, RG.isrt M = L := ⟨_, rfl⟩
  rw [hL] at hr hm ⊢
  cases L with
  | nil => exact absurd ((hm _).2 m1) (by simp)
  | cons a L =>
    have g := RG.rise_min hr
    have g1 := (g _ ((hm _).2 m1)).1
    have g2 := m2 a ((hm a).1 List.mem_cons_self)
    have g3 := (g _ ((hm _).2 x1)).2
    have g4 := x2 _ ((hm _).1 (RG.lastOf_mem L a))
    refine ⟨by simp, ?_, ?_⟩
    · show a = _
      omega
    · have e : (((a :: L).length : Int) - 1) = ((L.length : Nat) : Int) := by simp
      rw [e]
      unfold rd
      rw [Int.toNat_natCast, List.getD_eq_getElem?_getD, last_get L a]
      show RG.lastOf a L = _
      omega
theorem dbounds_f (k : Nat) (hk : 500001 < k) (a : List SR) (ha : a.length ≤ 12) : miradorref15_Bounds.f k a = some (hullS (a.filter cntS)) := by
  unfold miradorref15_Bounds.f
  rw [dborders_f k a (by omega) (by omega), Option.bind_some]
  have hc := counted a
  obtain ⟨l, hl⟩ : ∃ l, a.filter cntS = l := ⟨_, rfl⟩
  rw [hl] at hc ⊢
  have hx := xends_len l
  have hy := yends_len l
  cases l with
  | nil => rfl
  | cons p l =>
    have ex : xendsS (p :: l) ≠ [] := fun h => by rw [h] at hx; simp at hx
    have ey : yendsS (p :: l) ≠ [] := fun h => by rw [h] at hy; simp at hy
    obtain ⟨p1, p2, p3⟩ := rise_ends _ ex
    obtain ⟨q1, q2, q3⟩ := rise_ends _ ey
    have lx := RG.isrt_len (xendsS (p :: l))
    have ly := RG.isrt_len (yendsS (p :: l))
    have hlen : (p :: l).length ≤ 12 := by rw [← hl]; exact Nat.le_trans (filter_len a) ha
    have b1 := xends_bd _ hc _ (min_of _ ex).1
    have b2 := xends_bd _ hc _ (max_of _ ex).1
    have b3 := yends_bd _ hc _ (min_of _ ey).1
    have b4 := yends_bd _ hc _ (max_of _ ey).1
    unfold B at b1 b2 b3 b4
    simp only []
    rw [wrap_id (x := ((RG.isrt (xendsS (p :: l))).length : Int) - 1) (by omega) (by omega), wrap_id (x := ((RG.isrt (yendsS (p :: l))).length : Int) - 1) (by omega) (by omega)]
    rw [if_neg (by omega), if_pos (by omega), if_pos (by omega), if_pos (by omega), if_pos (by omega), if_pos (by omega), if_pos (by omega), p2, p3, q2, q3, wrap_id (by omega) (by omega), wrap_id (by omega) (by omega)]
    unfold hullS
    rw [if_neg (by simp)]
/-- Both move alike. -/
theorem shift_same (k : Nat) (hk : 70000000000 ≤ k) (a : List SR) (ha : a.length ≤ 12) (dx dy : Int) : ∃ m, region_Shift.f (k + 1) a dx dy = some m ∧ miradorref15_Shift.f (k + 1) a dx dy = some m ∧ m.length ≤ 2000000 := by
  have ll := comb_len keepMake a [] 12 (by simpa using ha)
  by_cases h : (-2097152 ≤ dx ∧ dx ≤ 2097152) ∧ (-2097152 ≤ dy ∧ dy ≤ 2097152)
  · obtain ⟨hx, hy⟩ := h
    have hr := reg_make a
    have hc : ∀ r ∈ combS keepMake a [], cntS r = true := fun r h => by rw [← cnt_tr]; exact hr.counts _ (List.mem_map_of_mem h)
    have lm : ((combS keepMake a []).map (shS dx dy)).length ≤ 576 := by rw [List.length_map]; omega
    have l2 := comb_len keepMake ((combS keepMake a []).map (shS dx dy)) [] 576 (by simpa using lm)
    refine ⟨combS keepMake ((combS keepMake a []).map (shS dx dy)) [], ?_, ?_, by omega⟩
    · rw [shift_f k (by omega) a (by omega) dx dy hx hy, make_f _ (by omega), Option.bind_some]
    · unfold miradorref15_Shift.f
      rw [if_neg (by omega), if_neg (by omega), if_neg (by omega), decide_eq_false (by omega), miradorref15_Shift.j0, if_neg (by decide), dcomb_f k (by omega) 0 a [] (by simp; omega), Option.bind_some, dcomb_make]
      have g := dshift_l0 dx dy hx hy (combS keepMake a []) [] k (by omega) hc (by simp; omega)
      rw [List.nil_append, dcomb_make] at g
      exact g
  · have hd : miradorref15_Shift.j0 (k + 1) a dx dy true = some [] := by rw [miradorref15_Shift.j0, if_pos rfl]
    have hg : region_Shift.j0 (k + 1) a dx dy true = some [] := by rw [region_Shift.j0, if_pos rfl]
    refine ⟨[], ?_, ?_, by simp⟩
    · unfold region_Shift.f region_small.f
      by_cases c1 : -2097152 ≤ dx
      · rw [if_pos c1, Option.bind_some]
        by_cases c2 : dx ≤ 2097152
        · rw [decide_eq_true c2, if_pos rfl]
          by_cases c3 : -2097152 ≤ dy
          · rw [if_pos c3, Option.bind_some, decide_eq_false (fun c4 => h ⟨⟨c1, c2⟩, c3, c4⟩)]
            exact hg
          · rw [if_neg c3, Option.bind_some]
            exact hg
        · rw [decide_eq_false c2, if_neg (by decide)]
          exact hg
      · rw [if_neg c1, Option.bind_some, if_neg (by decide)]
        exact hg
    · unfold miradorref15_Shift.f
      rw [hd]
      by_cases c1 : dx < -2097152
      · rw [if_pos c1]
      rw [if_neg c1]
      by_cases c2 : dx > 2097152
      · rw [if_pos c2]
      rw [if_neg c2]
      by_cases c3 : dy < -2097152
      · rw [if_pos c3]
      rw [if_neg c3, decide_eq_true (by omega), hd]
theorem asks_pure (k : Nat) (hk : 70000000000 ≤ k) (a : List SR) (dx dy x y : Int) : miradorlaw15_RegionAsks.f (k + 10) a dx dy x y = some true := by
  unfold miradorlaw15_RegionAsks.f
  rw [works_f _ (by omega), Option.bind_some, if_pos rfl]
  by_cases ha : (a.length : Int) > 12
  · rw [if_pos ha]
  obtain ⟨m, h1, h2, h3⟩ := shift_same (k + 9) (by omega) a (by omega) dx dy
  rw [if_neg ha, h1, Option.bind_some, h2, Option.bind_some, same_f _ m m rfl (by omega) (by omega), Option.bind_some, if_pos rfl, area_f _ a (by omega) (by omega), Option.bind_some, darea_f _ (by omega) a (by omega), Option.bind_some, if_pos rfl, has_f _ a x y (by omega) (by omega), Option.bind_some, dhas_f _ a x y (by omega) (by omega), Option.bind_some, if_pos (by simp), bounds_f _ a (by omega) (by omega), Option.bind_some, dbounds_f _ (by omega) a (by omega), Option.bind_some]
  simp
end Go.Proofs.Ytkobiblgbpnlaaa.RT
namespace Go.Proofs.Ytkobiblgbpnlaaa.H
open Go.RowKit Go.Proofs.YtkobiblgbpnlaaaW.PrintWords
theorem RegionAsks_walk (fa0 : Option Addr) (fb0 : Nat) (fc0 : List X.S26) (a1 : Int) (a2 : Int) (a3 : Int) (a4 : Int) (W : World) (ga0 : fc0.length ≤ fb0) (gb0 : Kd.C X.k26 W fa0 fc0.length fc0) (_w1 : (Lit.int .i64 a1).wf = true) (_w2 : (Lit.int .i64 a2).wf = true) (_w3 : (Lit.int .i64 a3).wf = true) (_w4 : (Lit.int .i64 a4).wf = true) :
    Calls Try.prog 9 #[.slice fa0 fc0.length fb0, .int .i64 a1, .int .i64 a2, .int .i64 a3, .int .i64 a4] W fun e w' => e = .returned (.bool true) ∧ Below W.heap.size W w' :=
  X.miradorlaw15_RegionAsks.calls1 (70000000000 + 10) fa0 fb0 fc0 a1 a2 a3 a4 true W gb0 ga0 rfl (RT.asks_pure 70000000000 (by decide) fc0 a1 a2 a3 a4)
end Go.Proofs.Ytkobiblgbpnlaaa.H
