/- The laws RrePieces, RreCovers, RreOne, plain. No condition. -/
import Derived.Test.YtkmfhfejogjnfaaRP1
import Derived.Test.YtkmfhfejogjnfaaXx29
import Derived.Test.YtkmfhfejogjnfaaXx33
import Derived.Test.YtkmfhfejogjnfaaXx5
import Derived.Test.YtkmfhfejogjnfaaXx6
namespace Go.Proofs.Ytkmfhfejogjnfaa.RP
open Go.RowKit Go.Proofs.YtkmfhfejogjnfaaW.PrintWords Go.Proofs.YtkmfhfejogjnfaaW.PrintLast Go.Proofs.YtkmfhfejogjnfaaW.PrintMore Go.Proofs.Ytkmfhfejogjnfaa.B Go.Proofs.Ytkmfhfejogjnfaa.EV Go.Proofs.Ytkmfhfejogjnfaa.X
set_option linter.unusedVariables false
set_option linter.unusedSimpArgs false
theorem works_ev : Evt (fun k => miradorlaw17_works.f k) true := ⟨200, fun k hk => at_rounds (g := fun k => miradorlaw17_works.f k) miradorlaw17_works.mono hk miradorlaw17_works.at0⟩
theorem wfL_of {l : List Int} (h : ∀ x ∈ l, (Lit.int .i64 x).wf = true) : wfL l = true := by
  unfold wfL; exact List.all_eq_true.2 h
theorem groundP_f {l : List Int} (hl : l.length ≤ 1000000) (h : ∀ x ∈ l, (Lit.int .i64 x).wf = true) : rre_Ground.f l = some (RR.groundP l) := by
  unfold rre_Ground.f
  rw [if_pos ⟨hl, wfL_of h⟩]
theorem sideB_iff (a : Int) : sideB a = true ↔ 0 ≤ a ∧ a ≤ 4096 := by unfold sideB; simp
theorem wmulI {a b : Int} (ha : 0 ≤ a ∧ a ≤ 4096) (hb : 0 ≤ b ∧ b ≤ 4096) : wrap64 (a * b) = a * b := by
  have h2 : 0 ≤ a * b := Int.mul_nonneg ha.1 hb.1
  have h3 : a * b ≤ 4096 * 4096 := Int.mul_le_mul ha.2 hb.2 hb.1 (by decide)
  exact w64 (by omega) (by omega)
theorem piecesP_f {w h : Nat} (hw : w ≤ 4096) (hh : h ≤ 4096) {vals : List Int} (hv : vals.length = w * h) (hn9 : w * h ≤ 1000000) (g : Int) : rre_Pieces.f (w : Int) (h : Int) vals g = some ((RR.scan (X.valOf vals w) w h g (RR.places w h)).map pcS) := by
  unfold rre_Pieces.f
  rw [if_pos (by omega), if_pos (by
    rw [Bool.and_eq_true, Bool.and_eq_true, sideB_iff, sideB_iff, decide_eq_true_eq]
    exact ⟨⟨by omega, by omega⟩, by rw [hv, Int.natCast_mul]⟩), Int.toNat_natCast, Int.toNat_natCast, runP_scan hv]
/-- Program and document find the same pieces. -/
theorem both (a0 a1 : Int) (vals : List Int) (hv9 : vals.length ≤ 1000000) (g : Int) : ∃ ps : List RR.Pc, rre_Pieces.f a0 a1 vals g = some (ps.map pcS) ∧ Evt (fun k => miradorref17_Pieces.f k a0 a1 vals g) (ps.map pcD) ∧ ps.length ≤ vals.length := by
  by_cases hc : 0 ≤ a0 ∧ 0 ≤ a1 ∧ a0 ≤ 4096 ∧ a1 ≤ 4096 ∧ (vals.length : Int) = a0 * a1
  · obtain ⟨h0, h1, h2, h3, h4⟩ := hc
    obtain ⟨w, rfl⟩ := Int.eq_ofNat_of_zero_le h0
    obtain ⟨h, rfl⟩ := Int.eq_ofNat_of_zero_le h1
    have hv : vals.length = w * h := by
      have : (vals.length : Int) = ((w * h : Nat) : Int) := by rw [h4, Int.natCast_mul]
      omega
    refine ⟨_, piecesP_f (by omega) (by omega) hv (by omega) g, pieces_f (by omega) (by omega) hv (by omega) g, ?_⟩
    rw [hv]; exact RR.pieces_few _ w h g
  · refine ⟨[], ?_, pieces_none a0 a1 vals g (fun ⟨h0, h1, h2, h3, h4⟩ => hc ⟨h0, h1, h2, h3, by rw [wmulI ⟨h0, h2⟩ ⟨h1, h3⟩] at h4; exact h4⟩), Nat.zero_le _⟩
    unfold rre_Pieces.f
    rw [if_pos hv9, if_neg (fun h => hc (by
      rw [Bool.and_eq_true, Bool.and_eq_true, sideB_iff, sideB_iff, decide_eq_true_eq] at h
      exact ⟨h.1.1.1, h.1.2.1, h.1.1.2, h.1.2.2, h.2⟩))]
    rfl
theorem rdS (l : List RR.Pc) (i : Nat) (hi : i < l.length) : rd_T31 (l.map pcS) (i : Int) = pcS l[i] := by
  unfold rd_T31
  rw [Int.toNat_natCast, List.getD_eq_getElem?_getD, List.getElem?_eq_getElem (by simpa using hi), List.getElem_map]; rfl
theorem pieces_loop (vals : List Int) (hv9 : vals.length ≤ 1000000) (hwf : ∀ x ∈ vals, (Lit.int .i64 x).wf = true) (ps : List RR.Pc) (hp : ps.length ≤ 1000000) : ∀ d i, i + d = ps.length → Evt (fun k => miradorlaw17_RrePieces.l0 k vals true (ps.map pcS) (ps.map pcD) (i : Int)) true
  | 0, i, hi => by
    refine Evt.step2 (ground_f vals hv9) (Evt.const true) fun k hk => ?_
    simp only [miradorlaw17_RrePieces.l0]
    rw [if_neg (by rw [List.length_map]; omega)]
    show ((rre_Ground.f vals).bind fun t299 => (miradorref17_Ground.f k vals).bind fun t300 => some (t299 == t300)) = _
    refine bind_eq (groundP_f hv9 hwf) (bind_eq hk ?_)
    simp
  | d + 1, i, hi => by
    have hlt : i < ps.length := by omega
    refine Evt.step (pieces_loop vals hv9 hwf ps hp d (i + 1) (by omega)) fun k => ?_
    simp only [miradorlaw17_RrePieces.l0]
    rw [if_pos (by rw [List.length_map]; omega), if_pos (by omega), if_pos (by rw [List.length_map]; omega), rdS ps i hlt, rdD ps i hlt, if_pos (show (pcS ps[i]).f0 = (pcD ps[i]).f0 from rfl), wone (by omega)]
    simp [pcS, pcD]
theorem RrePieces_pure : miradorlaw17_RrePieces.Pure := by
  intro a0 a1 l2 a3 _ _ _ _ hwf _
  refine Evt.get ?_
  refine Evt.bind2 (f := fun k => miradorlaw17_RrePieces.f k a0 a1 l2 a3) works_ev (b := fun k => if (l2.length : Int) > 200 then some true else (rre_Pieces.f a0 a1 l2 a3).bind fun t289 => (miradorref17_Pieces.f k a0 a1 l2 a3).bind fun t292 => if (t289.length : Int) = (t292.length : Int) then miradorlaw17_RrePieces.l0 k l2 true t289 t292 0 else some false) ?_ fun k hk => ?_
  rotate_left
  · unfold miradorlaw17_RrePieces.f
    exact (bind_eq hk rfl).trans (if_pos rfl)
  by_cases hl : (l2.length : Int) > 200
  · exact Evt.ite_pos hl (Evt.const true)
  · refine Evt.ite_neg hl ?_
    obtain ⟨ps, h1, h2, h3⟩ := both a0 a1 l2 (by omega) a3
    refine Evt.bind2 h2 (pieces_loop l2 (by omega) hwf ps (by omega) ps.length 0 (by omega)) fun k hk => ?_
    refine bind_eq h1 (bind_eq hk ?_)
    rw [if_pos (by rw [List.length_map, List.length_map])]
    rfl
end Go.Proofs.Ytkmfhfejogjnfaa.RP
