/- What the document's Combine answers: the region of what is asked for. No condition. -/
import Derived.Test.YtkobiblgbpnlaaaRD
import Derived.Test.YtkobiblgbpnlaaaXx29
namespace Go.Proofs.Ytkobiblgbpnlaaa.RT
open Go.Proofs.Ytkobiblgbpnlaaa Go.Proofs.Ytkobiblgbpnlaaa.X Go.RowKit Go.Proofs.YtkobiblgbpnlaaaW.PrintWords Go.Proofs.YtkobiblgbpnlaaaW.PrintLast Go.Proofs.YtkobiblgbpnlaaaW.PrintMore
set_option linter.unusedVariables false
set_option linter.unusedSimpArgs false
def rt (r : RG.Rect) : SR := ⟨r.1, r.2.1, r.2.2.1, r.2.2.2⟩
theorem rt_tr (l : List RG.Rect) : (l.map rt).map tr = l := by
  rw [List.map_map]
  exact (List.map_congr_left (g := id) fun r _ => rfl).trans (List.map_id _)
theorem rdi_at (l : List Int) (i : Nat) (h : i < l.length) : rd l (i : Int) = l[i] := by
  unfold rd; rw [Int.toNat_natCast, List.getD_eq_getElem?_getD, List.getElem?_eq_getElem h]; rfl
theorem pairs_drop (l : List Int) (i : Nat) (h : i + 1 < l.length) : RG.pairs (l.drop i) = (l[i], l[i + 1]) :: RG.pairs (l.drop (i + 1)) := by
  rw [List.drop_eq_getElem_cons (by omega : i < l.length), List.drop_eq_getElem_cons h, RG.pairs]
theorem pairs_done (l : List Int) (i : Nat) (h : ¬ i + 1 < l.length) : RG.pairs (l.drop i) = [] := by
  by_cases hi : i < l.length
  · rw [List.drop_eq_getElem_cons hi, List.drop_of_length_le (by omega), RG.pairs]
    all_goals simp
  · rw [List.drop_of_length_le (by omega), RG.pairs]
    all_goals simp
/-- A band's rectangles, of a row. -/
def bandS (f t : Int) (r : RG.Row) : List SR := (RG.rectsOf1 (f, t, r)).map rt
theorem bandS_app (f t : Int) (l : RG.Row) (c d : Int) (u : Bool) : bandS f t (l ++ [(c, d, u)]) = bandS f t l ++ [⟨c, f, d - c, t - f⟩] := by
  simp [bandS, RG.rectsOf1, rt]
theorem bandS_len (f t : Int) (r : RG.Row) : (bandS f t r).length = r.length := by simp [bandS, RG.rectsOf1]
theorem bandS_tr (f t : Int) (r : RG.Row) : (bandS f t r).map tr = RG.rectsOf1 (f, t, r) := rt_tr _
/-- A row of pieces within reach, all of them pieces that are in. -/
def RowB (r : RG.Row) : Prop := ∀ p ∈ r, B p.1 ∧ B p.2.1 ∧ p.2.2 = true
theorem push_B (r : RG.Row) (hr : RowB r) (c d : Int) (hc : B c) (hd : B d) (v : Bool) : RowB (RG.push false r c d v) ∧ (RG.push false r c d v).length ≤ r.length + 1 := by
  cases v with
  | false => rw [RG.push_none]; exact ⟨hr, by omega⟩
  | true =>
    rcases List.eq_nil_or_concat r with rfl | ⟨l, ⟨e, g, u⟩, rfl⟩
    · exact ⟨fun p hp => by simp [RG.push] at hp; subst hp; exact ⟨hc, hd, rfl⟩, by simp [RG.push]⟩
    · rw [List.concat_eq_append] at hr ⊢
      have h1 := hr (e, g, u) (by simp)
      have h2 : ∀ p ∈ l, B p.1 ∧ B p.2.1 ∧ p.2.2 = true := fun p hp => hr p (List.mem_append_left _ hp)
      have hpl := RG.push_last false l e g u c d true
      rw [if_neg (by decide)] at hpl
      rw [hpl]
      split
      · refine ⟨fun p hp => ?_, by simp⟩
        rcases List.mem_append.1 hp with h | h
        · exact h2 p h
        · simp at h; subst h; exact ⟨h1.1, hd, rfl⟩
      · refine ⟨fun p hp => ?_, by simp⟩
        rcases List.mem_append.1 hp with h | h
        · exact h2 p h
        · simp at h
          rcases h with h | h
          · subst h; exact h1
          · subst h; exact ⟨hc, hd, rfl⟩
/-- What stands behind the inner loop. -/
def endI (k : Nat) (op : Int) (a b : List SR) (X Y : List Int) (out last : List SR) (i : Int) (band : List SR) : Option (List SR) :=
  if (last.length : Int) > 0 then ((miradorref15_same.f k last band).bind fun t => miradorref15_Combine.j2 k op a b X Y out last i band t) else miradorref15_Combine.j2 k op a b X Y out last i band false
theorem inner (op : Int) (a b : List SR) (X Y : List Int) (hX : ∀ z ∈ X, B z) (hY : ∀ z ∈ Y, B z) (la : a.length ≤ 100000) (lb : b.length ≤ 100000) (lX : X.length ≤ 100000) (lY : Y.length ≤ 100000) (out last : List SR) (i : Nat) (hi : i + 1 < Y.length) (R : Option (List SR)) (K : Nat) (hK : 200000 ≤ K) :
    ∀ (m k j : Nat) (row : RG.Row), X.length ≤ j + m → K + m < k → RowB row → row.length ≤ j → j ≤ 200000 →
      (∀ k', K ≤ k' → endI k' op a b X Y out last (i : Int) (bandS Y[i] Y[i + 1] (RG.pushAll false (fun x => kop op (RG.has (a.map tr) x Y[i]) (RG.has (b.map tr) x Y[i])) row (RG.pairs (X.drop j)))) = R) →
      miradorref15_Combine.l1 k op a b X Y out last (i : Int) (bandS Y[i] Y[i + 1] row) (j : Int) = R := by
  intro m
  have yb := hY Y[i] (List.getElem_mem _)
  have yb2 := hY Y[i + 1] (List.getElem_mem _)
  unfold B at yb yb2
  induction m with
  | zero =>
    intro k j row h hk hr hl hj hR
    obtain ⟨k, rfl⟩ : ∃ q, k = q + 1 := ⟨k - 1, by omega⟩
    rw [pairs_done X j (by omega)] at hR
    rw [miradorref15_Combine.l1, wrap_next j (by omega), if_neg (by omega)]
    exact hR k (by omega)
  | succ m ih =>
    intro k j row h hk hr hl hj hR
    obtain ⟨k, rfl⟩ : ∃ q, k = q + 1 := ⟨k - 1, by omega⟩
    by_cases hlt : j + 1 < X.length
    · rw [pairs_drop X j hlt] at hR
      have xb := hX X[j] (List.getElem_mem _)
      have xb2 := hX X[j + 1] (List.getElem_mem _)
      have hp := push_B row hr X[j] X[j + 1] xb xb2 (kop op (RG.has (a.map tr) X[j] Y[i]) (RG.has (b.map tr) X[j] Y[i]))
      have hn := ih k (j + 1) _ (by omega) (by omega) hp.1 (by omega) (by omega) hR
      unfold B at xb xb2
      rw [miradorref15_Combine.l1, wrap_next j (by omega), if_pos (by omega), if_pos (by omega), if_pos (by omega), if_pos (by omega), if_pos (by omega), rdi_at X j (by omega), rdi_at Y i (by omega), din_f k op a b _ _ (by omega) (by omega) (by omega) (by omega), Option.bind_some]
      cases hv : kop op (RG.has (a.map tr) X[j] Y[i]) (RG.has (b.map tr) X[j] Y[i]) with
      | false =>
        rw [hv, RG.push_none] at hn
        rw [if_neg (by decide)]
        exact hn
      | true =>
        rw [hv] at hn
        rw [if_pos rfl, wrap_next i (by omega)]
        have hfresh : ∀ row : RG.Row, RG.push false row X[j] X[j + 1] true = row ++ [(X[j], X[j + 1], true)] → row.length ≤ j → miradorref15_Combine.l1 k op a b X Y out last (i : Int) (bandS Y[i] Y[i + 1] (RG.push false row X[j] X[j + 1] true)) ((j + 1 : Nat) : Int) = R →
            (if (0 : Int) ≤ ((j + 1 : Nat) : Int) then (if (0 : Int) ≤ ((i + 1 : Nat) : Int) then (if ((i + 1 : Nat) : Int) < (Y.length : Int) then (if (bandS Y[i] Y[i + 1] row).length < 4398046511104 then (miradorref15_Combine.l1 k op a b X Y out last (i : Int) ((bandS Y[i] Y[i + 1] row) ++ [(⟨X[j], Y[i], wrap64 ((rd X ((j + 1 : Nat) : Int)) - X[j]), wrap64 ((rd Y ((i + 1 : Nat) : Int)) - Y[i])⟩ : SR)]) ((j + 1 : Nat) : Int)) else none) else none) else none) else none) = R := by
          intro row he hl hn
          rw [if_pos (by omega), if_pos (by omega), if_pos (by omega), if_pos (by rw [bandS_len]; omega), rdi_at X (j + 1) hlt, rdi_at Y (i + 1) hi, wrap_id (x := X[j + 1] - X[j]) (by omega) (by omega), wrap_id (x := Y[i + 1] - Y[i]) (by omega) (by omega)]
          rw [he, bandS_app] at hn
          exact hn
        rcases List.eq_nil_or_concat row with rfl | ⟨l, ⟨c, d, u⟩, rfl⟩
        · rw [if_neg (by simp [bandS, RG.rectsOf1])]
          exact hfresh [] (by simp [RG.push]) (by simp) hn
        · rw [List.concat_eq_append] at hr hl hn ⊢
          obtain ⟨g1, g2, g3⟩ := hr (c, d, u) (by simp)
          have g3 : u = true := g3
          subst g3
          unfold B at g1 g2
          have g1 : -1048576 ≤ c ∧ c ≤ 1048576 := g1
          have g2 : -1048576 ≤ d ∧ d ≤ 1048576 := g2
          have hlen : (bandS Y[i] Y[i + 1] (l ++ [(c, d, true)])).length = l.length + 1 := by rw [bandS_len]; simp
          have hl' : l.length + 1 ≤ j := by simpa using hl
          have e1 : wrap64 (((bandS Y[i] Y[i + 1] (l ++ [(c, d, true)])).length : Int) - 1) = (l.length : Int) := by rw [hlen, wrap_id (by omega) (by omega)]; omega
          have e2 : rd_T26 (bandS Y[i] Y[i + 1] (l ++ [(c, d, true)])) (l.length : Int) = ⟨c, Y[i], d - c, Y[i + 1] - Y[i]⟩ := by
            unfold rd_T26
            rw [Int.toNat_natCast, bandS_app, List.getD_eq_getElem?_getD, List.getElem?_append_right (by rw [bandS_len]; exact Nat.le_refl _), bandS_len, Nat.sub_self]
            rfl
          have hpl := RG.push_last false l c d true X[j] X[j + 1] true
          rw [if_neg (by decide)] at hpl
          rw [if_pos (by rw [hlen]; omega), e1, if_pos (by omega), if_pos (by rw [hlen]; omega), e2, wrap_id (x := c + (d - c)) (by omega) (by omega)]
          by_cases hd : d = X[j]
          · rw [if_pos (by omega), if_pos (by omega), rdi_at X (j + 1) hlt, wrap_id (x := X[j + 1] - c) (by omega) (by omega), Int.toNat_natCast, bandS_app, List.set_append_right _ _ (by rw [bandS_len]; exact Nat.le_refl _), bandS_len, Nat.sub_self]
            rw [if_pos ⟨hd, rfl⟩] at hpl
            rw [hpl, bandS_app] at hn
            exact hn
          · rw [if_neg (by omega)]
            rw [if_neg (fun h => hd h.1)] at hpl
            have he : RG.push false (l ++ [(c, d, true)]) X[j] X[j + 1] true = (l ++ [(c, d, true)]) ++ [(X[j], X[j + 1], true)] := by rw [hpl]; simp
            exact hfresh (l ++ [(c, d, true)]) he hl hn
    · rw [pairs_done X j hlt] at hR
      rw [miradorref15_Combine.l1, wrap_next j (by omega), if_neg (by omega)]
      exact hR k (by omega)
theorem pushAll_B (f : Int → Bool) : ∀ (ps : List (Int × Int)) (r : RG.Row), (∀ p ∈ ps, B p.1 ∧ B p.2) → RowB r → RowB (RG.pushAll false f r ps) ∧ (RG.pushAll false f r ps).length ≤ r.length + ps.length
  | [], r, _, hr => ⟨hr, Nat.le_refl _⟩
  | p :: ps, r, hp, hr => by
    have h1 := push_B r hr p.1 p.2 (hp p List.mem_cons_self).1 (hp p List.mem_cons_self).2 (f p.1)
    have h2 := pushAll_B f ps (RG.push false r p.1 p.2 (f p.1)) (fun q hq => hp q (List.mem_cons_of_mem _ hq)) h1.1
    exact ⟨h2.1, by have := h2.2; show (RG.pushAll false f (RG.push false r p.1 p.2 (f p.1)) ps).length ≤ _; simp only [List.length_cons]; omega⟩
theorem pairs_len : ∀ L : List Int, (RG.pairs L).length ≤ L.length
  | [] => Nat.le_refl _
  | [a] => by simp [RG.pairs]
  | a :: b :: l => by rw [RG.pairs]; have := pairs_len (b :: l); simp only [List.length_cons] at this ⊢; omega
def setH (t : Int) (r : SR) : SR := ⟨r.f0, r.f1, r.f2, t - r.f1⟩
theorem l2_run (op : Int) (a b : List SR) (X Y : List Int) (hY : ∀ z ∈ Y, B z) (lY : Y.length ≤ 100000) (out : List SR) (i : Nat) (hi : i + 1 < Y.length) (R : Option (List SR)) (K : Nat) :
    ∀ (rest pre : List SR) (k : Nat), K + rest.length < k → pre.length + rest.length ≤ 100000 → (∀ r ∈ rest, B r.f1) →
      (∀ k', K ≤ k' → miradorref15_Combine.l0 k' op a b X Y out (pre ++ rest.map (setH Y[i + 1])) ((i + 1 : Nat) : Int) = R) →
      miradorref15_Combine.l2 k op a b X Y out (pre ++ rest) (i : Int) (pre.length : Int) = R := by
  have yb2 := hY Y[i + 1] (List.getElem_mem _)
  unfold B at yb2
  intro rest
  induction rest with
  | nil =>
    intro pre k hk hl hB hR
    obtain ⟨k, rfl⟩ : ∃ q, k = q + 1 := ⟨k - 1, by omega⟩
    rw [miradorref15_Combine.l2, if_neg (by simp), wrap_next i (by omega)]
    exact hR k (by simp at hk; omega)
  | cons r rest ih =>
    intro pre k hk hl hB hR
    simp only [List.length_cons] at hk hl
    obtain ⟨k, rfl⟩ : ∃ q, k = q + 1 := ⟨k - 1, by omega⟩
    have hr := hB r List.mem_cons_self
    unfold B at hr
    have hq : (((pre ++ [setH Y[i + 1] r]).length : Nat) : Int) = ((pre.length + 1 : Nat) : Int) := by simp
    have hrd : rd_T26 (pre ++ r :: rest) (pre.length : Int) = r := by
      unfold rd_T26
      rw [Int.toNat_natCast, List.getD_eq_getElem?_getD, List.getElem?_append_right (Nat.le_refl _), Nat.sub_self]
      rfl
    have hset : (pre ++ r :: rest).set (pre.length : Int).toNat (setH Y[i + 1] r) = (pre ++ [setH Y[i + 1] r]) ++ rest := by
      rw [Int.toNat_natCast, List.set_append_right _ _ (Nat.le_refl _), Nat.sub_self]; simp
    have hn := ih (pre ++ [setH Y[i + 1] r]) k (by omega) (by simp; omega) (fun q hq => hB q (List.mem_cons_of_mem _ hq)) (fun k' hk' => by
      have := hR k' hk'
      rw [List.map_cons] at this
      rw [List.append_assoc]
      exact this)
    rw [miradorref15_Combine.l2, if_pos (by simp; omega), wrap_next i (by omega), if_pos (by omega), if_pos (by omega), if_pos (by omega), hrd, rdi_at Y (i + 1) hi, wrap_id (x := Y[i + 1] - r.f1) (by omega) (by omega), wrap_next pre.length (by omega), ← hq]
    rw [show (⟨r.f0, r.f1, r.f2, Y[i + 1] - r.f1⟩ : SR) = setH Y[i + 1] r from rfl, hset]
    exact hn
theorem setH_rt (t : Int) (l : List RG.Rect) : (l.map rt).map (setH t) = (l.map fun r => (r.1, r.2.1, r.2.2.1, t - r.2.1)).map rt := by
  rw [List.map_map, List.map_map]; rfl
set_option maxRecDepth 20000 in
theorem outer (op : Int) (a b : List SR) (X Y : List Int) (hX : ∀ z ∈ X, B z) (hY : ∀ z ∈ Y, B z) (la : a.length ≤ 100000) (lb : b.length ≤ 100000) (lX : X.length ≤ 100000) (lY : Y.length ≤ 100000) :
    ∀ (m k i : Nat) (st : List RG.Rect × List RG.Rect), Y.length ≤ i + m → 300000 + m * 500000 < k → i ≤ 200000 → (∀ r ∈ st.2, B r.2.1) → st.2.length ≤ 100000 → st.1.length ≤ i * 100000 →
      miradorref15_Combine.l0 k op a b X Y (st.1.map rt) (st.2.map rt) (i : Int) = some (((RG.allD (fun y => RG.rowF (kop op) (RG.pieces (RG.counting (a.map tr)) y) (RG.pieces (RG.counting (b.map tr)) y) X) st (RG.pairs (Y.drop i))).1 ++ (RG.allD (fun y => RG.rowF (kop op) (RG.pieces (RG.counting (a.map tr)) y) (RG.pieces (RG.counting (b.map tr)) y) X) st (RG.pairs (Y.drop i))).2).map rt) := by
  have fin : ∀ (k i : Nat) (st : List RG.Rect × List RG.Rect), 0 < k → ¬ i + 1 < Y.length → i ≤ 200000 → st.2.length ≤ 100000 → st.1.length ≤ i * 100000 → miradorref15_Combine.l0 k op a b X Y (st.1.map rt) (st.2.map rt) (i : Int) = some ((st.1 ++ st.2).map rt) := by
    intro k i st hk hi hi2 h1 h2
    obtain ⟨k, rfl⟩ : ∃ q, k = q + 1 := ⟨k - 1, by omega⟩
    rw [miradorref15_Combine.l0, wrap_next i (by omega), if_neg (by omega), if_pos (by rw [List.length_map, List.length_map]; omega), List.map_append]
  intro m
  induction m with
  | zero =>
    intro k i st h hk hi2 hB h1 h2
    rw [pairs_done Y i (by omega)]
    exact fin k i st (by omega) (by omega) hi2 h1 h2
  | succ m ih =>
    intro k i st h hk hi2 hB h1 h2
    by_cases hi : i + 1 < Y.length
    · obtain ⟨k, rfl⟩ : ∃ q, k = q + 1 := ⟨k - 1, by omega⟩
      rw [pairs_drop Y i hi]
      have yb := hY Y[i] (List.getElem_mem _)
      have hrow := pushAll_B (fun x => kop op (RG.has (a.map tr) x Y[i]) (RG.has (b.map tr) x Y[i])) (RG.pairs X) [] (fun p hp => ⟨hX _ (pairs_mem X p hp).1, hX _ (pairs_mem X p hp).2⟩) (fun p hp => by cases hp)
      have hpl := pairs_len X
      obtain ⟨row, hr⟩ : ∃ row, RG.pushAll false (fun x => kop op (RG.has (a.map tr) x Y[i]) (RG.has (b.map tr) x Y[i])) [] (RG.pairs X) = row := ⟨_, rfl⟩
      rw [hr] at hrow
      have hS : RG.rowF (kop op) (RG.pieces (RG.counting (a.map tr)) Y[i]) (RG.pieces (RG.counting (b.map tr)) Y[i]) X = row := hr
      have hlen : row.length ≤ 100000 := by have := hrow.2; simp at this; omega
      rw [miradorref15_Combine.l0, wrap_next i (by omega), if_pos (by omega)]
      refine inner op a b X Y hX hY la lb lX lY (st.1.map rt) (st.2.map rt) i hi _ (300000 + m * 500000 + 150000) (by omega) X.length k 0 [] (by omega) (by omega) (fun p hp => by cases hp) (by simp) (by omega) (fun k' hk' => ?_)
      rw [List.drop_zero, hr]
      have hall : ∀ st' : List RG.Rect × List RG.Rect, RG.stepD st Y[i] Y[i + 1] row = st' → RG.allD (fun y => RG.rowF (kop op) (RG.pieces (RG.counting (a.map tr)) y) (RG.pieces (RG.counting (b.map tr)) y) X) st ((Y[i], Y[i + 1]) :: RG.pairs (Y.drop (i + 1))) = RG.allD (fun y => RG.rowF (kop op) (RG.pieces (RG.counting (a.map tr)) y) (RG.pieces (RG.counting (b.map tr)) y) X) st' (RG.pairs (Y.drop (i + 1))) := by
        intro st' h
        unfold RG.allD
        rw [List.foldl_cons]
        show List.foldl _ (RG.stepD st Y[i] Y[i + 1] (RG.rowF (kop op) (RG.pieces (RG.counting (a.map tr)) Y[i]) (RG.pieces (RG.counting (b.map tr)) Y[i]) X)) _ = _
        rw [hS, h]
      obtain ⟨k', rfl⟩ : ∃ q, k' = q + 1 := ⟨k' - 1, by omega⟩
      have hnew : (¬ (0 < st.2.length ∧ RG.sameXW st.2 (RG.rectsOf1 (Y[i], Y[i + 1], row)) = true)) → ∀ q, 300000 + m * 500000 + 149999 ≤ q → miradorref15_Combine.j2 (q + 1) op a b X Y (st.1.map rt) (st.2.map rt) (i : Int) (bandS Y[i] Y[i + 1] row) false = some (((RG.allD (fun y => RG.rowF (kop op) (RG.pieces (RG.counting (a.map tr)) y) (RG.pieces (RG.counting (b.map tr)) y) X) st ((Y[i], Y[i + 1]) :: RG.pairs (Y.drop (i + 1)))).1 ++ (RG.allD (fun y => RG.rowF (kop op) (RG.pieces (RG.counting (a.map tr)) y) (RG.pieces (RG.counting (b.map tr)) y) X) st ((Y[i], Y[i + 1]) :: RG.pairs (Y.drop (i + 1)))).2).map rt) := by
        intro hc q hq
        have hs : RG.stepD st Y[i] Y[i + 1] row = (st.1 ++ st.2, RG.rectsOf1 (Y[i], Y[i + 1], row)) := by unfold RG.stepD; rw [if_neg hc]
        rw [hall _ hs, miradorref15_Combine.j2, if_neg (by decide), if_pos (by rw [List.length_map, List.length_map]; omega), wrap_next i (by omega), ← List.map_append]
        have q1 : Y.length ≤ (i + 1) + m := by omega
        have q2 : 300000 + m * 500000 < q := Nat.lt_of_lt_of_le (Nat.lt_add_of_pos_right (by decide)) hq
        have q3 : i + 1 ≤ 200000 := by omega
        have q4 : ∀ r ∈ RG.rectsOf1 (Y[i], Y[i + 1], row), B r.2.1 := fun r hr => by
          obtain ⟨p, _, rfl⟩ := List.mem_map.1 hr
          exact yb
        have q5 : (RG.rectsOf1 (Y[i], Y[i + 1], row)).length ≤ 100000 := by unfold RG.rectsOf1; rw [List.length_map]; exact hlen
        have q6 : (st.1 ++ st.2).length ≤ (i + 1) * 100000 := by rw [List.length_append, Nat.add_mul, Nat.one_mul]; exact Nat.add_le_add h2 h1
        exact ih q (i + 1) (st.1 ++ st.2, RG.rectsOf1 (Y[i], Y[i + 1], row)) q1 q2 q3 q4 q5 q6
      unfold endI
      by_cases hz : 0 < st.2.length
      · rw [if_pos (by rw [List.length_map]; omega), dsame_f _ _ _ (by rw [List.length_map]; omega) (by rw [List.length_map]; omega), Option.bind_some, rt_tr, bandS_tr]
        cases hsm : RG.sameXW st.2 (RG.rectsOf1 (Y[i], Y[i + 1], row)) with
        | false => exact hnew (fun h => by rw [hsm] at h; cases h.2) k' (by omega)
        | true =>
          have hs : RG.stepD st Y[i] Y[i + 1] row = (st.1, st.2.map fun r => (r.1, r.2.1, r.2.2.1, Y[i + 1] - r.2.1)) := by unfold RG.stepD; rw [if_pos ⟨hz, hsm⟩]
          rw [hall _ hs, miradorref15_Combine.j2, if_pos rfl]
          refine l2_run op a b X Y hY lY (st.1.map rt) i hi _ (300000 + m * 500000 + 1) (st.2.map rt) [] k' (by rw [List.length_map]; omega) (by simp; omega) (fun r hr => ?_) (fun q hq => ?_)
          · obtain ⟨p, hp, rfl⟩ := List.mem_map.1 hr
            exact hB p hp
          · rw [List.nil_append, setH_rt]
            have q1 : Y.length ≤ (i + 1) + m := by omega
            have q2 : 300000 + m * 500000 < q := Nat.lt_of_lt_of_le (Nat.lt_add_of_pos_right (by decide)) hq
            have q3 : i + 1 ≤ 200000 := by omega
            have q4 : ∀ r ∈ (st.2.map fun r => ((r.1, r.2.1, r.2.2.1, Y[i + 1] - r.2.1) : RG.Rect)), B r.2.1 := fun r hr => by
              obtain ⟨p, hp, rfl⟩ := List.mem_map.1 hr
              exact hB p hp
            have q5 : (st.2.map fun r => ((r.1, r.2.1, r.2.2.1, Y[i + 1] - r.2.1) : RG.Rect)).length ≤ 100000 := by rw [List.length_map]; exact h1
            have q6 : st.1.length ≤ (i + 1) * 100000 := Nat.le_trans h2 (Nat.mul_le_mul_right _ (Nat.le_succ i))
            exact ih q (i + 1) (st.1, st.2.map fun r => (r.1, r.2.1, r.2.2.1, Y[i + 1] - r.2.1)) q1 q2 q3 q4 q5 q6
      · rw [if_neg (by rw [List.length_map]; omega)]
        exact hnew (fun h => hz h.1) k' (by omega)
    · rw [pairs_done Y i hi]
      exact fin k i st (by omega) hi hi2 h1 h2
def dcomb (op : Int) (a b : List SR) : List SR := (RG.combD (fun y => RG.rowF (kop op) (RG.pieces (RG.counting (a.map tr)) y) (RG.pieces (RG.counting (b.map tr)) y) (RG.isrt (xendsS ((a ++ b).filter cntS)))) (RG.isrt (yendsS ((a ++ b).filter cntS)))).map rt
theorem dcomb_f (k : Nat) (hk : 60000000000 < k) (op : Int) (a b : List SR) (la : a.length + b.length ≤ 10000) : miradorref15_Combine.f k op a b = some (dcomb op a b) := by
  unfold miradorref15_Combine.f
  have hf : ((a ++ b).filter cntS).length ≤ 10000 := by have := filter_len (a ++ b); rw [List.length_append] at this; omega
  have lx := RG.isrt_len (xendsS ((a ++ b).filter cntS))
  have ly := RG.isrt_len (yendsS ((a ++ b).filter cntS))
  have l1 := xends_len ((a ++ b).filter cntS)
  have l2 := yends_len ((a ++ b).filter cntS)
  have e0 : ([] : List SR) ++ a ++ b = a ++ b := by simp
  rw [if_pos (by simp; omega), Option.bind_some, if_pos (by simp; omega), e0, dborders_f k (a ++ b) (by omega) (by rw [List.length_append]; omega), Option.bind_some]
  exact outer op a b (RG.isrt (xendsS ((a ++ b).filter cntS))) (RG.isrt (yendsS ((a ++ b).filter cntS))) (fun z hz => xends_bd _ (counted _) z (((RG.isrt_sorted _).2 z).1 hz)) (fun z hz => yends_bd _ (counted _) z (((RG.isrt_sorted _).2 z).1 hz)) (by omega) (by omega) (by omega) (by omega) (RG.isrt (yendsS ((a ++ b).filter cntS))).length k 0 ([], []) (by omega) (by omega) (by omega) (fun r hr => by cases hr) (by simp) (by simp)
theorem dcomb_reg (op : Int) (a b : List SR) : RG.IsReg ((dcomb op a b).map tr) (fun x y => kop op (RG.has (a.map tr) x y) (RG.has (b.map tr) x y)) := by
  unfold dcomb
  rw [rt_tr]
  have e1 : RG.counting (a.map tr) ++ RG.counting (b.map tr) = ((a ++ b).filter cntS).map tr := by rw [counting_tr, counting_tr, List.filter_append, List.map_append]
  refine RG.combD_reg (kop op) (by unfold kop; split; rfl; split <;> rfl) (a.map tr) (b.map tr) _ _ (RG.isrt_sorted _).1 (fun z => ?_) ?_
  · rw [(RG.isrt_sorted _).2, e1]
    unfold xendsS
    rw [List.mem_flatMap]
    constructor
    · rintro ⟨r, hr, h⟩
      exact ⟨tr r, List.mem_map_of_mem hr, by simpa [tr] using h⟩
    · rintro ⟨q, hq, h⟩
      obtain ⟨r, hr, rfl⟩ := List.mem_map.1 hq
      exact ⟨r, hr, by simpa [tr] using h⟩
  · rw [e1, yends_tr]
    exact RG.isrt_sorted _
end Go.Proofs.Ytkobiblgbpnlaaa.RT
