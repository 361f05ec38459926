/- The law RegionSets: the walk, out of the print's contract, and its plain law. No condition. -/
-- OPEN 0 Go.Proofs.Ytkobiblgbpnlaaa.RQ.open_rects fa fb fc : ga gb
-- OPEN 1 Go.Proofs.Ytkobiblgbpnlaaa.RQ.open_rects fa fb fc : ga gb
import Derived.Test.YtkobiblgbpnlaaaRE
import Derived.Test.YtkobiblgbpnlaaaRQ
import Derived.Test.YtkobiblgbpnlaaaXx31
namespace Go.Proofs.Ytkobiblgbpnlaaa.RT
open Go.Proofs.Ytkobiblgbpnlaaa Go.Proofs.Ytkobiblgbpnlaaa.X Go.RowKit Go.Proofs.YtkobiblgbpnlaaaW.PrintWords Go.Proofs.YtkobiblgbpnlaaaW.PrintLast Go.Proofs.YtkobiblgbpnlaaaW.PrintMore
set_option linter.unusedVariables false
set_option linter.unusedSimpArgs false
theorem reg_eqD {l m : List SR} {S T : Int → Int → Bool} (h : RG.IsReg (l.map tr) S) (k : RG.IsReg (m.map tr) T) (e : ∀ x y, S x y = T x y) : l = m := map_inj (h.unique k e)
theorem sets_pure (k : Nat) (hk : 60000000001 ≤ k) (a b : List SR) : miradorlaw15_RegionSets.f (k + 1) a b = some true := by
  unfold miradorlaw15_RegionSets.f
  rw [works_f _ (by omega), Option.bind_some, if_pos rfl]
  by_cases ha : (a.length : Int) > 12
  · rw [if_pos ha, miradorlaw15_RegionSets.j0, if_pos rfl]
  rw [if_neg ha]
  by_cases hb : (b.length : Int) > 12
  · rw [decide_eq_true hb, miradorlaw15_RegionSets.j0, if_pos rfl]
  rw [decide_eq_false hb, miradorlaw15_RegionSets.j0, if_neg (by decide)]
  have l1 := comb_len keepMake a [] 24 (by simp; omega)
  have l2 := comb_len keepUnion a b 24 (by omega)
  have l3 := comb_len keepMinus a b 24 (by omega)
  have l4 := comb_len keepBoth a b 24 (by omega)
  have e1 : combS keepMake a [] = dcomb 0 a [] := reg_eqD (reg_make a) (dcomb_reg 0 a []) (fun x y => by rw [has_nil]; unfold kop; rw [if_pos rfl, Bool.or_false])
  have e2 : combS keepUnion a b = dcomb 0 a b := reg_eqD (reg_union a b) (dcomb_reg 0 a b) (fun x y => by unfold kop; rw [if_pos rfl])
  have e3 : combS keepMinus a b = dcomb 1 a b := reg_eqD (reg_minus a b) (dcomb_reg 1 a b) (fun x y => by unfold kop; rw [if_neg (by decide), if_pos rfl])
  have e4 : combS keepBoth a b = dcomb 2 a b := reg_eqD (reg_both a b) (dcomb_reg 2 a b) (fun x y => by unfold kop; rw [if_neg (by decide), if_neg (by decide)])
  rw [make_f a (by omega), Option.bind_some, dcomb_f k (by omega) 0 a [] (by simp; omega), Option.bind_some, same_f k _ _ e1 (by omega) (by omega), Option.bind_some]
  rw [union_f a b (by omega), Option.bind_some, dcomb_f k (by omega) 0 a b (by omega), Option.bind_some, same_f k _ _ e2 (by omega) (by omega), Option.bind_some]
  rw [minus_f a b (by omega), Option.bind_some, dcomb_f k (by omega) 1 a b (by omega), Option.bind_some, same_f k _ _ e3 (by omega) (by omega), Option.bind_some]
  rw [both_f a b (by omega), Option.bind_some, dcomb_f k (by omega) 2 a b (by omega), Option.bind_some, same_f k _ _ e4 (by omega) (by omega), Option.bind_some]
  rw [if_pos rfl, if_pos rfl, if_pos rfl, if_pos rfl]
end Go.Proofs.Ytkobiblgbpnlaaa.RT
namespace Go.Proofs.Ytkobiblgbpnlaaa.H
open Go.RowKit Go.Proofs.YtkobiblgbpnlaaaW.PrintWords
theorem RegionSets_walk (fa0 : Option Addr) (fb0 : Nat) (fc0 : List X.S26) (fa1 : Option Addr) (fb1 : Nat) (fc1 : List X.S26) (W : World) (ga0 : fc0.length ≤ fb0) (gb0 : Kd.C X.k26 W fa0 fc0.length fc0) (ga1 : fc1.length ≤ fb1) (gb1 : Kd.C X.k26 W fa1 fc1.length fc1) :
    Calls Try.prog 4 #[.slice fa0 fc0.length fb0, .slice fa1 fc1.length fb1] W fun e w' => e = .returned (.bool true) ∧ Below W.heap.size W w' :=
  X.miradorlaw15_RegionSets.calls1 (60000000001 + 1) fa0 fb0 fc0 fa1 fb1 fc1 true W gb0 ga0 gb1 ga1 rfl (RT.sets_pure 60000000001 (by decide) fc0 fc1)
end Go.Proofs.Ytkobiblgbpnlaaa.H
