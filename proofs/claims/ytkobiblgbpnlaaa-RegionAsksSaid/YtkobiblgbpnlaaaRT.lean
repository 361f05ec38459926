/- What the program's regions answer, as the plain theory of regions says it. No condition. -/
import Derived.Test.YtkobiblgbpnlaaaRG
import Derived.Test.YtkobiblgbpnlaaaXx19
import Derived.Test.YtkobiblgbpnlaaaXx30
import Derived.Test.YtkobiblgbpnlaaaXx20
import Derived.Test.YtkobiblgbpnlaaaXx4
namespace Go.Proofs.Ytkobiblgbpnlaaa.RT
open Go.Proofs.Ytkobiblgbpnlaaa Go.Proofs.Ytkobiblgbpnlaaa.X
set_option linter.unusedVariables false
set_option linter.unusedSimpArgs false
abbrev SR := S26
abbrev SS := S60
def tr (r : SR) : RG.Rect := (r.f0, r.f1, r.f2, r.f3)
def ts (s : SS) : RG.Span := (s.f0, s.f1)
theorem tr_inj {a b : SR} (h : tr a = tr b) : a = b := by
  obtain ⟨a0, a1, a2, a3⟩ := a
  obtain ⟨b0, b1, b2, b3⟩ := b
  simp only [tr, Prod.mk.injEq] at h
  obtain ⟨rfl, rfl, rfl, rfl⟩ := h
  rfl
theorem map_inj {a b : List SR} (h : a.map tr = b.map tr) : a = b := by
  induction a generalizing b with
  | nil => cases b with
    | nil => rfl
    | cons y b => cases h
  | cons x a ih => cases b with
    | nil => cases h
    | cons y b =>
      rw [List.map_cons, List.map_cons] at h
      injection h with h1 h2
      rw [tr_inj h1, ih h2]
theorem cnt_tr (r : SR) : RG.cnt (tr r) = cntS r := by
  rw [Bool.eq_iff_iff, RG.cnt_iff, cntS_iff]; exact Iff.rfl
theorem counting_tr (l : List SR) : RG.counting (l.map tr) = (l.filter cntS).map tr := by
  unfold RG.counting
  rw [List.filter_map, show (RG.cnt ∘ tr) = cntS from funext cnt_tr]
theorem pieces_tr (l : List SR) (y : Int) : RG.pieces (l.map tr) y = (piecesS l y).map ts := by
  unfold RG.pieces piecesS
  rw [List.filter_map, List.map_map, List.map_map]
  rfl
theorem inn_ts (l : List SS) (x : Int) : RG.inn (l.map ts) x = inS l x := by
  unfold RG.inn inS
  rw [List.any_map]
  try rfl
theorem ends_ts (l : List SS) : RG.ends (l.map ts) = endsL l := by
  unfold RG.ends endsL
  rw [List.flatMap_map]
  rfl
theorem yends_tr (l : List SR) : RG.yends (l.map tr) = yendsS l := by
  unfold RG.yends yendsS
  rw [List.flatMap_map]
  rfl
theorem pairs_range : ∀ L : List Int, RG.pairs L = (List.range (L.length - 1)).map fun k => (L.getD k 0, L.getD (k + 1) 0)
  | [] => rfl
  | [a] => rfl
  | a :: b :: l => by
    rw [RG.pairs, pairs_range (b :: l)]
    show _ = (List.range (l.length + 1)).map _
    rw [List.range_succ_eq_map, List.map_cons, List.map_map]
    rfl
theorem pairs_mem : ∀ (L : List Int), ∀ p ∈ RG.pairs L, p.1 ∈ L ∧ p.2 ∈ L
  | [], p, h => by cases h
  | [a], p, h => by cases h
  | a :: b :: l, p, h => by
    rw [RG.pairs] at h
    rcases List.mem_cons.1 h with rfl | h
    · exact ⟨by simp, by simp⟩
    · obtain ⟨h1, h2⟩ := pairs_mem (b :: l) p h
      exact ⟨List.mem_cons_of_mem _ h1, List.mem_cons_of_mem _ h2⟩
/-- A row of the theory, as pieces. -/
def sp (r : RG.Row) : List SS := r.map fun p => ⟨p.1, p.2.1⟩
theorem sp_ts (r : RG.Row) : (sp r).map ts = RG.spansOf r := by
  unfold sp RG.spansOf
  rw [List.map_map]
  rfl
theorem step_row (kp : Bool → Bool → Bool) (a b : List SS) (r : RG.Row) (hr : ∀ p ∈ r, p.2.2 = true) (f t : Int) :
    stepR kp a b (sp r) f t = sp (RG.push false r f t (kp (inS a f) (inS b f))) ∧ ∀ p ∈ RG.push false r f t (kp (inS a f) (inS b f)), p.2.2 = true := by
  unfold stepR
  by_cases hk : kp (inS a f) (inS b f) = true
  · rw [if_pos hk, hk]
    rcases List.eq_nil_or_concat r with rfl | ⟨l, ⟨c, d, u⟩, rfl⟩
    · refine ⟨?_, ?_⟩
      · rw [if_neg (by simp [sp])]; simp [sp, RG.push]
      · simp [RG.push]
    · rw [List.concat_eq_append] at hr ⊢
      have hu : u = true := hr (c, d, u) (by simp)
      subst hu
      have hpl := RG.push_last false l c d true f t true
      rw [if_neg (by decide)] at hpl
      rw [hpl]
      have hs : sp (l ++ [(c, d, true)]) = sp l ++ [⟨c, d⟩] := by simp [sp]
      have hl : ∀ p ∈ l, p.2.2 = true := fun p hp => hr p (List.mem_append_left _ hp)
      rw [hs]
      by_cases hd : d = f
      · subst hd
        rw [if_pos (by simp), if_pos ⟨rfl, rfl⟩]
        refine ⟨by simp [sp], fun p hp => ?_⟩
        rcases List.mem_append.1 hp with h | h
        · exact hl p h
        · simp at h; rw [h]
      · rw [if_neg (by simp [hd]), if_neg (fun h => hd h.1)]
        refine ⟨by simp [sp], fun p hp => ?_⟩
        rcases List.mem_append.1 hp with h | h
        · exact hl p h
        · simp at h; rcases h with h | h <;> rw [h]
  · rw [if_neg hk, Bool.eq_false_iff.mpr hk, RG.push_none]
    exact ⟨rfl, hr⟩
theorem fold_row (kp : Bool → Bool → Bool) (a b : List SS) : ∀ (ps : List (Int × Int)) (r : RG.Row), (∀ p ∈ r, p.2.2 = true) →
    ps.foldl (fun o p => stepR kp a b o p.1 p.2) (sp r) = sp (RG.pushAll false (fun x => kp (inS a x) (inS b x)) r ps)
  | [], r, _ => rfl
  | p :: ps, r, hr => by
    obtain ⟨h1, h2⟩ := step_row kp a b r hr p.1 p.2
    rw [List.foldl_cons, h1, fold_row kp a b ps _ h2]
    rfl
theorem row_eq (kp : Bool → Bool → Bool) (a b : List SS) : rowS kp a b = sp (RG.rowF kp (a.map ts) (b.map ts) (RG.isrt (RG.ends (a.map ts ++ b.map ts)))) := by
  unfold rowS rowL RG.rowF
  rw [← List.map_append, ends_ts]
  have h := fold_row kp a b (RG.pairs (RG.isrt (endsL (a ++ b)))) [] (by simp)
  rw [show (fun x => kp (RG.inn (a.map ts) x) (RG.inn (b.map ts) x)) = fun x => kp (inS a x) (inS b x) from by funext x; rw [inn_ts, inn_ts], ← h, pairs_range, List.foldl_map]
  rfl
/-- A number that is not far from nought. -/
def B (z : Int) : Prop := -1048576 ≤ z ∧ z ≤ 1048576
theorem fold_bd (kp : Bool → Bool → Bool) (a b : List SS) : ∀ (ps : List (Int × Int)) (o : List SS), (∀ p ∈ ps, B p.1 ∧ B p.2) → (∀ s ∈ o, B s.f0 ∧ B s.f1) → ∀ s ∈ ps.foldl (fun o p => stepR kp a b o p.1 p.2) o, B s.f0 ∧ B s.f1
  | [], o, _, ho => ho
  | p :: ps, o, hp, ho => by
    rw [List.foldl_cons]
    refine fold_bd kp a b ps _ (fun q hq => hp q (List.mem_cons_of_mem _ hq)) ?_
    obtain ⟨h1, h2⟩ := hp p List.mem_cons_self
    unfold stepR
    split
    · split
      · rename_i hl
        intro s hs
        rcases List.mem_append.1 hs with h | h
        · exact ho s (List.dropLast_subset o h)
        · simp at h
          subst h
          rcases List.eq_nil_or_concat o with rfl | ⟨l, x, rfl⟩
          · simp at hl
          · rw [List.concat_eq_append]; exact ⟨by simpa using (ho x (by simp)).1, h2⟩
      · intro s hs
        rcases List.mem_append.1 hs with h | h
        · exact ho s h
        · simp at h; subst h; exact ⟨h1, h2⟩
    · exact ho
theorem row_bd (kp : Bool → Bool → Bool) (a b : List SS) (h : ∀ s ∈ a ++ b, B s.f0 ∧ B s.f1) : ∀ s ∈ rowS kp a b, B s.f0 ∧ B s.f1 := by
  unfold rowS rowL
  have h1 := fold_bd kp a b (RG.pairs (RG.isrt (endsL (a ++ b)))) [] (fun p hp => by
    obtain ⟨h2, h3⟩ := pairs_mem _ p hp
    have hm : ∀ z, z ∈ RG.isrt (endsL (a ++ b)) → B z := fun z hz => by
      rw [(RG.isrt_sorted _).2] at hz
      obtain ⟨s, hs, h4⟩ := List.mem_flatMap.1 hz
      simp at h4
      rcases h4 with rfl | rfl
      · exact (h s hs).1
      · exact (h s hs).2
    exact ⟨hm _ h2, hm _ h3⟩) (by simp)
  rw [pairs_range, List.foldl_map] at h1
  exact h1
theorem pieces_bd (l : List SR) (y : Int) (h : ∀ r ∈ l, cntS r = true) : ∀ s ∈ piecesS l y, B s.f0 ∧ B s.f1 := fun s hs => by
  obtain ⟨r, hr, rfl⟩ := List.mem_map.1 hs
  have := (cntS_iff r).1 (h r (List.mem_filter.1 hr).1)
  unfold B
  exact ⟨⟨by show _ ≤ r.f0; omega, by show r.f0 ≤ _; omega⟩, ⟨by show _ ≤ r.f0 + r.f2; omega, by show r.f0 + r.f2 ≤ _; omega⟩⟩
def phi (st : CBS) : List RG.Rect × RG.CB := (st.1.map tr, (st.2.1, st.2.2.1, st.2.2.2.map ts))
def Bd (st : CBS) : Prop := B st.2.1 ∧ B st.2.2.1 ∧ ∀ s ∈ st.2.2.2, B s.f0 ∧ B s.f1
theorem rects_tr (st : CBS) (h : Bd st) : (rectsS st.2.1 st.2.2.1 st.2.2.2).map tr = RG.rectsC (st.2.1, st.2.2.1, st.2.2.2.map ts) := by
  unfold rectsS RG.rectsC
  rw [List.map_map, List.map_map]
  refine List.map_congr_left fun s hs => ?_
  obtain ⟨h1, h2, h3⟩ := h
  have h4 := h3 s hs
  unfold B at h1 h2 h4
  simp only [Function.comp, tr, ts]
  rw [wrap_id (by omega) (by omega), wrap_id (by omega) (by omega)]
theorem map_ts_inj {a b : List SS} (h : a.map ts = b.map ts) : a = b := by
  induction a generalizing b with
  | nil => cases b with
    | nil => rfl
    | cons y b => cases h
  | cons x a ih => cases b with
    | nil => cases h
    | cons y b =>
      rw [List.map_cons, List.map_cons] at h
      injection h with h1 h2
      obtain ⟨x0, x1⟩ := x
      obtain ⟨y0, y1⟩ := y
      simp only [ts, Prod.mk.injEq] at h1
      obtain ⟨rfl, rfl⟩ := h1
      rw [ih h2]
theorem step_comb (kp : Bool → Bool → Bool) (a b : List SR) (ha : ∀ r ∈ a ++ b, cntS r = true) (st : CBS) (h : Bd st) (f t : Int) (hf : B f) (ht : B t) :
    phi (stepB kp a b st f t) = RG.stepC (phi st) f t ((rowS kp (piecesS a f) (piecesS b f)).map ts) ∧ Bd (stepB kp a b st f t) := by
  have hb : ∀ s ∈ rowS kp (piecesS a f) (piecesS b f), B s.f0 ∧ B s.f1 := row_bd kp _ _ (fun s hs => by
    rcases List.mem_append.1 hs with h | h
    · exact pieces_bd a f (fun r hr => ha r (List.mem_append_left _ hr)) s h
    · exact pieces_bd b f (fun r hr => ha r (List.mem_append_right _ hr)) s h)
  unfold stepB RG.stepC
  by_cases hc : 0 < (rowS kp (piecesS a f) (piecesS b f)).length ∧ st.2.2.1 = f ∧ rowS kp (piecesS a f) (piecesS b f) = st.2.2.2
  · rw [if_pos hc, if_pos ⟨by rw [List.length_map]; exact hc.1, hc.2.1, congrArg (List.map ts) hc.2.2⟩]
    exact ⟨by simp only [phi, hc.2.2], h.1, ht, h.2.2⟩
  · rw [if_neg hc, if_neg (fun h => hc ⟨by have := h.1; rw [List.length_map] at this; exact this, h.2.1, map_ts_inj h.2.2⟩)]
    refine ⟨?_, hf, ht, hb⟩
    simp only [phi, List.map_append]
    rw [rects_tr st h]
theorem fold_comb (kp : Bool → Bool → Bool) (a b : List SR) (ha : ∀ r ∈ a ++ b, cntS r = true) : ∀ (ps : List (Int × Int)) (st : CBS), Bd st → (∀ p ∈ ps, B p.1 ∧ B p.2) →
    phi (ps.foldl (fun o p => stepB kp a b o p.1 p.2) st) = RG.allC (fun y => (rowS kp (piecesS a y) (piecesS b y)).map ts) (phi st) ps ∧ Bd (ps.foldl (fun o p => stepB kp a b o p.1 p.2) st)
  | [], st, h, _ => ⟨rfl, h⟩
  | p :: ps, st, h, hp => by
    obtain ⟨h1, h2⟩ := step_comb kp a b ha st h p.1 p.2 (hp p List.mem_cons_self).1 (hp p List.mem_cons_self).2
    obtain ⟨h3, h4⟩ := fold_comb kp a b ha ps _ h2 (fun q hq => hp q (List.mem_cons_of_mem _ hq))
    rw [List.foldl_cons]
    refine ⟨?_, h4⟩
    rw [h3, h1]
    rfl
theorem comb_eq (kp : Bool → Bool → Bool) (a b : List SR) :
    (combS kp a b).map tr = RG.combC (fun y => (rowS kp (piecesS (a.filter cntS) y) (piecesS (b.filter cntS) y)).map ts) (RG.isrt (yendsS (a.filter cntS ++ b.filter cntS))) := by
  have hc : ∀ r ∈ a.filter cntS ++ b.filter cntS, cntS r = true := fun r hr => by
    rcases List.mem_append.1 hr with h | h
    · exact (List.mem_filter.1 h).2
    · exact (List.mem_filter.1 h).2
  obtain ⟨h1, h2⟩ := fold_comb kp (a.filter cntS) (b.filter cntS) hc (RG.pairs (RG.isrt (yendsS (a.filter cntS ++ b.filter cntS)))) ([], 0, 0, []) ⟨⟨by decide, by decide⟩, ⟨by decide, by decide⟩, by simp⟩ (fun p hp => by
    obtain ⟨h2, h3⟩ := pairs_mem _ p hp
    have hm : ∀ z, z ∈ RG.isrt (yendsS (a.filter cntS ++ b.filter cntS)) → B z := fun z hz => by
      rw [(RG.isrt_sorted _).2] at hz
      obtain ⟨r, hr, h4⟩ := List.mem_flatMap.1 hz
      have h5 := (cntS_iff r).1 (hc r hr)
      simp at h4
      unfold B
      rcases h4 with rfl | rfl <;> omega
    exact ⟨hm _ h2, hm _ h3⟩)
  have h3 : combS kp a b = combE ((RG.pairs (RG.isrt (yendsS (a.filter cntS ++ b.filter cntS)))).foldl (fun o p => stepB kp (a.filter cntS) (b.filter cntS) o p.1 p.2) ([], 0, 0, [])) := by
    unfold combS combL
    rw [pairs_range, List.foldl_map]
    rfl
  rw [h3]
  unfold combE RG.combC
  rw [List.map_append, rects_tr _ h2, show (([], (0, 0, [])) : List RG.Rect × RG.CB) = phi ([], 0, 0, []) from rfl, ← h1]
  rfl
/-- WHAT THE PROGRAM MAKES OF TWO IS THE REGION OF WHAT IS ASKED FOR. -/
theorem reg_comb (kp : Bool → Bool → Bool) (hk : kp false false = false) (a b : List SR) : RG.IsReg ((combS kp a b).map tr) (fun x y => kp (RG.has (a.map tr) x y) (RG.has (b.map tr) x y)) := by
  rw [comb_eq]
  have h := RG.comb_reg kp hk (a.map tr) (b.map tr) (fun y => RG.rowF kp (RG.pieces (RG.counting (a.map tr)) y) (RG.pieces (RG.counting (b.map tr)) y) (RG.isrt (RG.ends (RG.pieces (RG.counting (a.map tr)) y ++ RG.pieces (RG.counting (b.map tr)) y))))
    (RG.row_ok kp hk _ _ (fun r hr => by
      rcases List.mem_append.1 hr with h | h
      · exact (List.mem_filter.1 h).2
      · exact (List.mem_filter.1 h).2) _ (fun y => RG.isrt_sorted _))
    (RG.isrt (RG.yends (RG.counting (a.map tr) ++ RG.counting (b.map tr)))) (RG.isrt_sorted _)
  rw [counting_tr, counting_tr, ← List.map_append, yends_tr] at h
  refine (congrArg (fun S => RG.IsReg (RG.combC S (RG.isrt (yendsS (a.filter cntS ++ b.filter cntS)))) (fun x y => kp (RG.has (a.map tr) x y) (RG.has (b.map tr) x y))) ?_).mp h
  funext y
  rw [row_eq, sp_ts, pieces_tr, pieces_tr]
end Go.Proofs.Ytkobiblgbpnlaaa.RT
