/- The laws RreCovers and RreOne, plain. No condition. -/
import Derived.Test.YtkmfhfejogjnfaaRP2
import Derived.Test.YtkmfhfejogjnfaaXx49
import Derived.Test.YtkmfhfejogjnfaaXx50
import Derived.Test.YtkmfhfejogjnfaaXx43s
namespace Go.Proofs.Ytkmfhfejogjnfaa.RP
open Go.RowKit Go.Proofs.YtkmfhfejogjnfaaW.PrintWords Go.Proofs.YtkmfhfejogjnfaaW.PrintLast Go.Proofs.YtkmfhfejogjnfaaW.PrintMore Go.Proofs.Ytkmfhfejogjnfaa.B Go.Proofs.Ytkmfhfejogjnfaa.EV Go.Proofs.Ytkmfhfejogjnfaa.X
set_option linter.unusedVariables false
set_option linter.unusedSimpArgs false
theorem small_f (a0 a1 : Int) : ∃ b, miradorlaw17_small.f a0 a1 = some b ∧ (b = true → ∃ w h : Nat, a0 = (w : Int) ∧ a1 = (h : Int) ∧ w ≤ 200 ∧ h ≤ 200 ∧ w * h ≤ 200) := by
  unfold miradorlaw17_small.f
  by_cases h0 : a0 ≥ 0
  · rw [if_pos h0]
    by_cases h1 : a1 ≥ 0
    · rw [if_pos h1]
      by_cases h2 : a0 ≤ 200
      · rw [if_pos h2]
        by_cases h3 : a1 ≤ 200
        · rw [if_pos h3]
          refine ⟨_, rfl, fun hb => ?_⟩
          obtain ⟨w, rfl⟩ := Int.eq_ofNat_of_zero_le h0
          obtain ⟨h, rfl⟩ := Int.eq_ofNat_of_zero_le h1
          have h9 := of_decide_eq_true hb
          have hle : w * h ≤ 200 * 200 := Nat.mul_le_mul (by omega) (by omega)
          rw [wmul (by omega)] at h9
          exact ⟨w, h, rfl, rfl, by omega, by omega, by omega⟩
        · rw [if_neg h3]; exact ⟨_, rfl, fun h => by cases h⟩
      · rw [if_neg h2]; exact ⟨_, rfl, fun h => by cases h⟩
    · rw [if_neg h1]; exact ⟨_, rfl, fun h => by cases h⟩
  · rw [if_neg h0]; exact ⟨_, rfl, fun h => by cases h⟩
section
variable {w h : Nat} {vals : List Int} {g : Int} (hw : w ≤ 200) (hh : h ≤ 200) (hv : vals.length = w * h) (hn9 : w * h ≤ 200)
include hw hh hv hn9
theorem covers_loop {x y : Nat} (hx : x < w) (hy : y < h) (ps : List RR.Pc) (hG : RR.Good (X.valOf vals w) w h g ps) (hp9 : ps.length ≤ 1000000) (hcnt : RR.cnt ps x y = if X.valOf vals w x y = g then 0 else 1) : ∀ d i, i + d = ps.length →
    Evt (fun k => miradorlaw17_RreCovers.l0 k (w : Int) (h : Int) vals g (x : Int) (y : Int) true (ps.map pcS) (RR.cnt (ps.take i) x y : Int) (i : Int)) true
  | 0, i, hi => by
    have hidx : y * w + x < w * h := by
      have h3 : (y + 1) * w ≤ h * w := Nat.mul_le_mul_right w hy
      rw [Nat.add_mul, Nat.one_mul, Nat.mul_comm h w] at h3; omega
    have hve : rd vals ((y * w + x : Nat) : Int) = X.valOf vals w x y := rdV _ _
    rw [List.take_of_length_le (by omega), hcnt]
    refine Evt.step (Evt.const _) fun k => ?_
    simp only [miradorlaw17_RreCovers.l0]
    rw [if_neg (by rw [List.length_map]; omega), wat (by omega)]
    rw [show ∀ (a b : Option Bool), (if True then a else b) = a from fun a b => if_pos trivial]
    rw [if_pos (by omega), if_pos (by omega), hve]
    by_cases hvg : X.valOf vals w x y = g
    · rw [if_pos hvg]; simp [hvg]
    · rw [if_neg hvg]; simp [hvg]
  | d + 1, i, hi => by
    have hlt : i < ps.length := by omega
    have hidx : y * w + x < w * h := by
      have h3 : (y + 1) * w ≤ h * w := Nat.mul_le_mul_right w hy
      rw [Nat.add_mul, Nat.one_mul, Nat.mul_comm h w] at h3; omega
    have hve : rd vals ((y * w + x : Nat) : Int) = X.valOf vals w x y := rdV _ _
    have hs := hG.sides _ (List.getElem_mem hlt)
    have hval := (hG.value _ (List.getElem_mem hlt)).2 x y
    have ih := covers_loop hx hy ps hG hp9 hcnt d (i + 1) (by omega)
    rw [List.take_succ_eq_append_getElem hlt, RR.cnt_app] at ih
    have hrd := rdS ps i hlt
    obtain ⟨p, hpe⟩ : ∃ p, ps[i] = p := ⟨_, rfl⟩
    rw [hpe] at hs hval ih hrd
    have hcn : RR.cnt (ps.take i) x y ≤ ps.length := Nat.le_trans (List.length_filter_le _ _) (List.length_take_le' _ _)
    -- the piece has the place: the counter goes up
    have j3t : RR.inP p x y = true → Evt (fun k => miradorlaw17_RreCovers.j3 k (w : Int) (h : Int) vals g (x : Int) (y : Int) true (ps.map pcS) (RR.cnt (ps.take i) x y : Int) (i : Int) true) true := fun hin => by
      rw [if_pos hin] at ih
      refine Evt.step ih fun k => ?_
      simp only [miradorlaw17_RreCovers.j3]
      rw [show ∀ (a b : Option Bool), (if True then a else b) = a from fun a b => if_pos trivial]
      rw [if_pos (by omega), if_pos (by rw [List.length_map]; omega), wat (by omega), if_pos (by omega), if_pos (by omega), hrd, hve, if_pos (show (pcS p).f0 = X.valOf vals w x y from (hval hin).symm), wone (by omega), wone (by omega)]
    have j3f : RR.inP p x y = false → Evt (fun k => miradorlaw17_RreCovers.j3 k (w : Int) (h : Int) vals g (x : Int) (y : Int) true (ps.map pcS) (RR.cnt (ps.take i) x y : Int) (i : Int) false) true := fun hin => by
      rw [hin, if_neg (by decide), Nat.add_zero] at ih
      refine Evt.step ih fun k => ?_
      simp only [miradorlaw17_RreCovers.j3]
      rw [if_neg (by decide), wone (by omega)]
    have j2 : Evt (fun k => miradorlaw17_RreCovers.j2 k (w : Int) (h : Int) vals g (x : Int) (y : Int) true (ps.map pcS) (RR.cnt (ps.take i) x y : Int) (i : Int) false (p.x : Int) (p.y : Int) (p.w : Int) (p.h : Int)) true := by
      by_cases c1 : p.x ≤ x
      · by_cases c2 : x < p.x + p.w
        · by_cases c3 : p.y ≤ y
          · by_cases c4 : y < p.y + p.h
            · refine Evt.step (j3t (by unfold RR.inP; simp [c1, c2, c3, c4])) fun k => ?_
              simp only [miradorlaw17_RreCovers.j2]
              rw [if_neg (show ¬ (false = true) from Bool.false_ne_true), wadd (by omega), wadd (by omega), if_pos (show (x : Int) ≥ (p.x : Int) by omega), if_pos (by omega), if_pos (show (y : Int) ≥ (p.y : Int) by omega), decide_eq_true (show (y : Int) < ((p.y + p.h : Nat) : Int) by omega)]
            · refine Evt.step (j3f (by unfold RR.inP; simp [c1, c2, c3, c4])) fun k => ?_
              simp only [miradorlaw17_RreCovers.j2]
              rw [if_neg (show ¬ (false = true) from Bool.false_ne_true), wadd (by omega), wadd (by omega), if_pos (show (x : Int) ≥ (p.x : Int) by omega), if_pos (by omega), if_pos (show (y : Int) ≥ (p.y : Int) by omega), decide_eq_false (show ¬ (y : Int) < ((p.y + p.h : Nat) : Int) by omega)]
          · refine Evt.step (j3f (by unfold RR.inP; simp [c3])) fun k => ?_
            simp only [miradorlaw17_RreCovers.j2]
            rw [if_neg (show ¬ (false = true) from Bool.false_ne_true), wadd (by omega), wadd (by omega), if_pos (show (x : Int) ≥ (p.x : Int) by omega), if_pos (by omega), if_neg (show ¬ (y : Int) ≥ (p.y : Int) by omega)]
        · refine Evt.step (j3f (by unfold RR.inP; simp [c2])) fun k => ?_
          simp only [miradorlaw17_RreCovers.j2]
          rw [if_neg (show ¬ (false = true) from Bool.false_ne_true), wadd (by omega), wadd (by omega), if_pos (show (x : Int) ≥ (p.x : Int) by omega), if_neg (by omega)]
      · refine Evt.step (j3f (by unfold RR.inP; simp [c1])) fun k => ?_
        simp only [miradorlaw17_RreCovers.j2]
        rw [if_neg (show ¬ (false = true) from Bool.false_ne_true), wadd (by omega), wadd (by omega), if_neg (show ¬ (x : Int) ≥ (p.x : Int) by omega)]
    refine Evt.step j2 fun k => ?_
    simp only [miradorlaw17_RreCovers.l0]
    rw [if_pos (by rw [List.length_map]; omega), if_pos (by omega), hrd]
    show (if (p.w : Int) < 1 then _ else if (p.h : Int) < 1 then _ else if (p.x : Int) < 0 then _ else if (p.y : Int) < 0 then _ else if wrap64 ((p.x : Int) + (p.w : Int)) > (w : Int) then _ else miradorlaw17_RreCovers.j2 k (w : Int) (h : Int) vals g (x : Int) (y : Int) true (ps.map pcS) (RR.cnt (ps.take i) x y : Int) (i : Int) (decide (wrap64 ((p.y : Int) + (p.h : Int)) > (h : Int))) (p.x : Int) (p.y : Int) (p.w : Int) (p.h : Int)) = _
    rw [if_neg (by omega), if_neg (by omega), if_neg (by omega), if_neg (by omega), wadd (by omega), if_neg (by omega), wadd (by omega), decide_eq_false (show ¬ ((p.y + p.h : Nat) : Int) > (h : Int) by omega)]
end
theorem RreCovers_pure : miradorlaw17_RreCovers.Pure := by
  intro a0 a1 l2 a3 a4 a5 _ _ _ _ _ _ _ _
  refine Evt.get ?_
  have jt : Evt (fun k => miradorlaw17_RreCovers.j0 k a0 a1 l2 a3 a4 a5 true true) true := Evt.step (Evt.const true) fun k => by simp only [miradorlaw17_RreCovers.j0]; rfl
  obtain ⟨b, hb, hbt⟩ := small_f a0 a1
  refine Evt.bind2 (f := fun k => miradorlaw17_RreCovers.f k a0 a1 l2 a3 a4 a5) works_ev (b := fun k => if b = true then (if (l2.length : Int) = (wrap64 (a0 * a1)) then (if a4 < 0 then (miradorlaw17_RreCovers.j0 k a0 a1 l2 a3 a4 a5 true true) else (if a5 < 0 then (miradorlaw17_RreCovers.j0 k a0 a1 l2 a3 a4 a5 true true) else (if a4 ≥ a0 then (miradorlaw17_RreCovers.j0 k a0 a1 l2 a3 a4 a5 true true) else (miradorlaw17_RreCovers.j0 k a0 a1 l2 a3 a4 a5 true (decide (a5 ≥ a1)))))) else (miradorlaw17_RreCovers.j0 k a0 a1 l2 a3 a4 a5 true true)) else (miradorlaw17_RreCovers.j0 k a0 a1 l2 a3 a4 a5 true true)) ?_ fun k hk => ?_
  rotate_left
  · unfold miradorlaw17_RreCovers.f
    exact (bind_eq hk rfl).trans ((if_pos rfl).trans (bind_eq hb rfl))
  by_cases hbe : b = true
  rotate_left
  · exact Evt.ite_neg hbe jt
  refine Evt.ite_pos hbe ?_
  obtain ⟨w, h, rfl, rfl, hw, hh, hn9⟩ := hbt hbe
  by_cases hl : (l2.length : Int) = wrap64 ((w : Int) * (h : Int))
  rotate_left
  · exact Evt.ite_neg hl jt
  refine Evt.ite_pos hl ?_
  rw [wmul (by omega)] at hl
  have hv : l2.length = w * h := by omega
  by_cases h4 : a4 < 0
  · exact Evt.ite_pos h4 jt
  refine Evt.ite_neg h4 ?_
  by_cases h5 : a5 < 0
  · exact Evt.ite_pos h5 jt
  refine Evt.ite_neg h5 ?_
  by_cases h6 : a4 ≥ (w : Int)
  · exact Evt.ite_pos h6 jt
  refine Evt.ite_neg h6 ?_
  by_cases h7 : a5 ≥ (h : Int)
  · rw [decide_eq_true h7]; exact jt
  rw [decide_eq_false h7]
  obtain ⟨x, rfl⟩ := Int.eq_ofNat_of_zero_le (show 0 ≤ a4 by omega)
  obtain ⟨y, rfl⟩ := Int.eq_ofNat_of_zero_le (show 0 ≤ a5 by omega)
  have hc := RR.covers (X.valOf l2 w) w h a3 (RR.places w h) (RR.places_in w h) (RR.places_all w h)
  have hfew := RR.pieces_few (X.valOf l2 w) w h a3
  refine Evt.step (covers_loop hw hh hv hn9 (g := a3) (x := x) (y := y) (by omega) (by omega) _ hc.1 (by omega) (hc.2 x y (by omega) (by omega)) (RR.scan (X.valOf l2 w) w h a3 (RR.places w h)).length 0 (by omega)) fun k => ?_
  simp only [miradorlaw17_RreCovers.j0]
  exact bind_eq (piecesP_f (by omega) (by omega) hv (by omega) a3) rfl
/-- What is scanned depends on the places within alone. -/
theorem step_congr {val val' : Nat → Nat → Int} {w h : Nat} (hv : ∀ x y, x < w → y < h → val x y = val' x y) (g : Int) (l : List RR.Pc) (q : Nat × Nat) (hx : q.1 < w) (hy : q.2 < h) : RR.step val w h g l q = RR.step val' w h g l q := by
  obtain ⟨x, y⟩ := q
  have e0 := hv x y hx hy
  have hfree : ∀ v a b, a < w → b < h → RR.free val l v a b = RR.free val' l v a b := fun v a b ha hb => by unfold RR.free; rw [hv a b ha hb]
  have hwide : RR.wide val l w x y = RR.wide val' l w x y := by
    unfold RR.wide
    rw [RR.ext_congr _ (fun a => RR.free val' l (val' x y) a y) _ _ (fun i hi => by rw [e0]; exact hfree _ _ _ (by have : x < w := hx; omega) hy)]
  have hwo := RR.wide_ok val l w x y hx
  have hhigh : RR.high val l w h x y = RR.high val' l w h x y := by
    unfold RR.high
    rw [RR.ext_congr _ (fun b => RR.rowFree val' l (val' x y) x b (RR.wide val' l w x y)) _ _ (fun i hi => by
      rw [e0, ← hwide]
      unfold RR.rowFree
      rw [Bool.eq_iff_iff, List.all_eq_true, List.all_eq_true]
      have hyh : y < h := hy
      constructor
      · intro H j hj
        have hj2 := List.mem_range.1 hj
        have := H j hj
        rwa [hfree _ _ _ (by omega) (by omega)] at this
      · intro H j hj
        have hj2 := List.mem_range.1 hj
        have := H j hj
        rwa [← hfree _ _ _ (by omega) (by omega)] at this)]
  unfold RR.step RR.piece
  simp only
  rw [e0, hwide, hhigh]
theorem scan_congr {val val' : Nat → Nat → Int} {w h : Nat} (hv : ∀ x y, x < w → y < h → val x y = val' x y) (g : Int) : ∀ (ps : List (Nat × Nat)) (l : List RR.Pc), (∀ q ∈ ps, q.1 < w ∧ q.2 < h) → ps.foldl (RR.step val w h g) l = ps.foldl (RR.step val' w h g) l
  | [], l, _ => rfl
  | q :: ps, l, hq => by
    rw [List.foldl_cons, List.foldl_cons, step_congr hv g l q (hq q List.mem_cons_self).1 (hq q List.mem_cons_self).2]
    exact scan_congr hv g ps _ (fun q' hq' => hq q' (List.mem_cons_of_mem _ hq'))
theorem rep_get (n i : Nat) (a d : Int) (h : i < n) : (List.replicate n a).getD i d = a := by
  rw [List.getD_eq_getElem?_getD, List.getElem?_replicate, if_pos h]; rfl
theorem one_build (a0 a1 a2 a3 a4 a5 : Int) (n : Nat) (hn : wrap64 (a0 * a1) = (n : Int)) (hn9 : n ≤ 200) {r : Bool} (hc : Evt (fun k => miradorlaw17_RreOne.l0 k a0 a1 a2 a3 a4 a5 true (List.replicate n a2) (n : Int)) r) : ∀ d i, i + d = n → Evt (fun k => miradorlaw17_RreOne.l0 k a0 a1 a2 a3 a4 a5 true (List.replicate i a2) (i : Int)) r
  | 0, i, hi => by obtain rfl : i = n := by omega
                   exact hc
  | d + 1, i, hi => by
    refine Evt.step (one_build a0 a1 a2 a3 a4 a5 n hn hn9 hc d (i + 1) (by omega)) fun k => ?_
    simp only [miradorlaw17_RreOne.l0]
    rw [hn, if_pos (by omega), if_pos (by rw [List.length_replicate]; omega), wone (by omega), List.replicate_succ']
theorem wf_rep {a : Int} (h : (Lit.int .i64 a).wf = true) (n : Nat) : ∀ x ∈ List.replicate n a, (Lit.int .i64 x).wf = true := fun x hx => by rw [(List.mem_replicate.1 hx).2]; exact h
theorem RreOne_pure : miradorlaw17_RreOne.Pure := by
  intro a0 a1 a2 a3 a4 a5 _ _ hf2 hf3 _ _
  refine Evt.get ?_
  have jt : Evt (fun k => miradorlaw17_RreOne.j0 k a0 a1 a2 a3 a4 a5 true true) true := Evt.step (Evt.const true) fun k => by simp only [miradorlaw17_RreOne.j0]; rfl
  obtain ⟨b, hb, hbt⟩ := small_f a0 a1
  refine Evt.bind2 (f := fun k => miradorlaw17_RreOne.f k a0 a1 a2 a3 a4 a5) works_ev (b := fun k => if a0 < 1 then (miradorlaw17_RreOne.j0 k a0 a1 a2 a3 a4 a5 true true) else (if a1 < 1 then (miradorlaw17_RreOne.j0 k a0 a1 a2 a3 a4 a5 true true) else (if b = true then (if (wrap64 (a0 * a1)) < 3 then (miradorlaw17_RreOne.j0 k a0 a1 a2 a3 a4 a5 true true) else (if a4 < 0 then (miradorlaw17_RreOne.j0 k a0 a1 a2 a3 a4 a5 true true) else (if a5 < 0 then (miradorlaw17_RreOne.j0 k a0 a1 a2 a3 a4 a5 true true) else (if a4 ≥ a0 then (miradorlaw17_RreOne.j0 k a0 a1 a2 a3 a4 a5 true true) else (miradorlaw17_RreOne.j0 k a0 a1 a2 a3 a4 a5 true (decide (a5 ≥ a1))))))) else (miradorlaw17_RreOne.j0 k a0 a1 a2 a3 a4 a5 true true)))) ?_ fun k hk => ?_
  rotate_left
  · unfold miradorlaw17_RreOne.f
    refine (bind_eq hk rfl).trans ((if_pos rfl).trans ?_)
    rw [hb]; rfl
  by_cases c0 : a0 < 1
  · exact Evt.ite_pos c0 jt
  refine Evt.ite_neg c0 ?_
  by_cases c1 : a1 < 1
  · exact Evt.ite_pos c1 jt
  refine Evt.ite_neg c1 ?_
  by_cases hbe : b = true
  rotate_left
  · exact Evt.ite_neg hbe jt
  refine Evt.ite_pos hbe ?_
  obtain ⟨w, h, rfl, rfl, hw, hh, hn9⟩ := hbt hbe
  by_cases c2 : wrap64 ((w : Int) * (h : Int)) < 3
  · exact Evt.ite_pos c2 jt
  refine Evt.ite_neg c2 ?_
  by_cases c4 : a4 < 0
  · exact Evt.ite_pos c4 jt
  refine Evt.ite_neg c4 ?_
  by_cases c5 : a5 < 0
  · exact Evt.ite_pos c5 jt
  refine Evt.ite_neg c5 ?_
  by_cases c6 : a4 ≥ (w : Int)
  · exact Evt.ite_pos c6 jt
  refine Evt.ite_neg c6 ?_
  by_cases c7 : a5 ≥ (h : Int)
  · rw [decide_eq_true c7]; exact jt
  rw [decide_eq_false c7]
  obtain ⟨x, rfl⟩ := Int.eq_ofNat_of_zero_le (show 0 ≤ a4 by omega)
  obtain ⟨y, rfl⟩ := Int.eq_ofNat_of_zero_le (show 0 ≤ a5 by omega)
  have hx : x < w := by omega
  have hy : y < h := by omega
  have hn : wrap64 ((w : Int) * (h : Int)) = ((w * h : Nat) : Int) := wmul (by omega)
  have h3 : 3 ≤ w * h := by omega
  have hidx : ∀ c d, c < w → d < h → d * w + c < w * h := fun c d hc hd => by
    have h3 : (d + 1) * w ≤ h * w := Nat.mul_le_mul_right w hd
    rw [Nat.add_mul, Nat.one_mul, Nat.mul_comm h w] at h3; omega
  have hxy := hidx x y hx hy
  have hlen : (List.replicate (w * h) a2).length = w * h := List.length_replicate
  -- all alike: no piece
  have hval1 : ∀ q ∈ RR.places w h, X.valOf (List.replicate (w * h) a2) w q.1 q.2 = a2 := fun q hq => by
    have := RR.places_in w h q hq
    unfold X.valOf
    exact rep_get _ _ _ _ (hidx _ _ this.1 this.2)
  have hP1 : rre_Pieces.f (w : Int) (h : Int) (List.replicate (w * h) a2) a2 = some [] := by
    rw [piecesP_f (by omega) (by omega) hlen (by omega)]
    unfold RR.scan
    rw [RR.scan_ground _ w h a2 _ [] (fun q hq => .inl (hval1 q hq))]; rfl
  have hG1 : rre_Ground.f (List.replicate (w * h) a2) = some a2 := by
    rw [groundP_f (by omega) (wf_rep hf2 _), RR.ground_all _ a2 (by intro e; have := congrArg List.length e; rw [hlen] at this; simp at this; omega) (fun v hv => (List.mem_replicate.1 hv).2)]
  refine Evt.step (f := fun k => miradorlaw17_RreOne.j0 k (w : Int) (h : Int) a2 a3 (x : Int) (y : Int) true false) (one_build (w : Int) (h : Int) a2 a3 (x : Int) (y : Int) (w * h) hn hn9 ?_ (w * h) 0 (by omega)) fun k => by simp only [miradorlaw17_RreOne.j0]; rfl
  refine Evt.step (b := fun k => miradorlaw17_RreOne.j2 k (w : Int) (h : Int) a2 a3 (x : Int) (y : Int) true (List.replicate (w * h) a2) false) ?_ fun k => ?_
  rotate_left
  · simp only [miradorlaw17_RreOne.l0]
    rw [hn, if_neg (by omega), hP1, Option.bind_some, if_neg (by simp), hG1, Option.bind_some]
    simp
  -- one place of another value
  obtain ⟨V, hV⟩ : ∃ V, (List.replicate (w * h) a2).set (y * w + x) a3 = V := ⟨_, rfl⟩
  have hVl : V.length = w * h := by rw [← hV, List.length_set, hlen]
  have hVf : ∀ z ∈ V, (Lit.int .i64 z).wf = true := fun z hz => by
    rw [← hV] at hz
    rcases List.mem_or_eq_of_mem_set hz with h1 | h1
    · rw [(List.mem_replicate.1 h1).2]; exact hf2
    · rw [h1]; exact hf3
  have hVv : ∀ c d, c < w → d < h → X.valOf V w c d = if c = x ∧ d = y then a3 else a2 := fun c d hc hd => by
    unfold X.valOf
    rw [← hV]
    by_cases e : c = x ∧ d = y
    · rw [if_pos e, e.1, e.2, List.getD_eq_getElem?_getD, List.getElem?_set_self (by rw [hlen]; exact hxy)]; rfl
    · rw [if_neg e]
      have hne : y * w + x ≠ d * w + c := fun e2 => by
        have := (row_in (w := w) (x := x) (y := y) (a := c) (b := d) (n := 1) hc (by omega)).1 ⟨by omega, by omega⟩
        exact e ⟨by omega, by omega⟩
      rw [List.getD_eq_getElem?_getD, List.getElem?_set_ne hne, ← List.getD_eq_getElem?_getD]
      exact rep_get _ _ _ _ (hidx c d hc hd)
  obtain ⟨P2, hP2⟩ : ∃ P, RR.groundP V = P := ⟨_, rfl⟩
  have hG2 : rre_Ground.f V = some P2 := by rw [groundP_f (by omega) hVf, hP2]
  have hP3 : rre_Pieces.f (w : Int) (h : Int) V P2 = some ((RR.scan (X.valOf V w) w h P2 (RR.places w h)).map pcS) := piecesP_f (by omega) (by omega) hVl (by omega) P2
  refine Evt.step (Evt.const true) fun k => ?_
  simp only [miradorlaw17_RreOne.j2]
  rw [if_neg (show ¬ (false = true) from Bool.false_ne_true), wat (by omega), if_pos (by omega), if_pos (by rw [hlen]; omega), Int.toNat_natCast, hV]
  refine bind_eq rfl (bind_eq hG2 (bind_eq hP3 ?_))
  by_cases hab : a2 = a3
  · rw [if_pos hab]
    have hg : P2 = a2 := by
      rw [← hP2]
      refine RR.ground_all _ a2 (by intro e; rw [e] at hVl; simp at hVl; omega) (fun v hv => ?_)
      rw [← hV] at hv
      rcases List.mem_or_eq_of_mem_set hv with h1 | h1
      · exact (List.mem_replicate.1 h1).2
      · rw [h1, hab]
    have hs : RR.scan (X.valOf V w) w h P2 (RR.places w h) = [] := by
      unfold RR.scan
      refine RR.scan_ground _ w h P2 _ [] (fun q hq => .inl ?_)
      have := RR.places_in w h q hq
      rw [hVv _ _ this.1 this.2, hg]
      split
      · exact hab.symm
      · rfl
    rw [hs]; rfl
  · rw [if_neg hab]
    have hgl : (List.replicate (w * h) a2)[y * w + x]'(by rw [hlen]; exact hxy) = a2 := List.getElem_replicate ..
    have hg : P2 = a2 := by
      rw [← hP2]
      refine RR.ground_one V a2 a3 hab (fun v hv => ?_) ?_ ?_
      · rw [← hV] at hv
        rcases List.mem_or_eq_of_mem_set hv with h1 | h1
        · exact .inl (List.mem_replicate.1 h1).2
        · exact .inr h1
      · rw [← hV, List.count_set (by rw [hlen]; exact hxy), hgl, List.count_replicate]
        simp [hab]
      · rw [← hV, List.count_set (by rw [hlen]; exact hxy), hgl, List.count_replicate]
        simp [Ne.symm hab]; omega
    have hs : RR.scan (X.valOf V w) w h P2 (RR.places w h) = [⟨a3, x, y, 1, 1⟩] := by
      rw [hg]
      unfold RR.scan
      rw [scan_congr (val' := fun c d => if c = x ∧ d = y then a3 else a2) hVv a2 _ [] (RR.places_in w h)]
      exact RR.scan_one _ w h a2 a3 hab x y hx hy (fun c d => rfl) _ (RR.places_all w h x y hx hy)
    rw [hs]
    show ((rre_Ground.f V).bind fun t468 => _) = _
    refine bind_eq hG2 ?_
    rw [if_pos hg]
    simp [rd_T31, pcS]
end Go.Proofs.Ytkmfhfejogjnfaa.RP
