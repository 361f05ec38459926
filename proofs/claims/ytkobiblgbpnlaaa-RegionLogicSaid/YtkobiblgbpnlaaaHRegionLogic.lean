/- The law RegionLogic: the walk, out of the print's contract, and its plain law. No condition. -/
-- OPEN 0 Go.Proofs.Ytkobiblgbpnlaaa.RQ.open_rects fa fb fc : ga gb
-- OPEN 1 Go.Proofs.Ytkobiblgbpnlaaa.RQ.open_rects fa fb fc : ga gb
import Derived.Test.YtkobiblgbpnlaaaRV
import Derived.Test.YtkobiblgbpnlaaaRQ
import Derived.Test.YtkobiblgbpnlaaaXx30
namespace Go.Proofs.Ytkobiblgbpnlaaa.RT
open Go.Proofs.Ytkobiblgbpnlaaa Go.Proofs.Ytkobiblgbpnlaaa.X Go.RowKit Go.Proofs.YtkobiblgbpnlaaaW.PrintWords Go.Proofs.YtkobiblgbpnlaaaW.PrintLast Go.Proofs.YtkobiblgbpnlaaaW.PrintMore
set_option linter.unusedVariables false
set_option linter.unusedSimpArgs false
theorem logic_pure (k : Nat) (hk : 1000000 ≤ k) (a b : List SR) (x y : Int) : miradorlaw15_RegionLogic.f (k + 1) a b x y = some true := by
  unfold miradorlaw15_RegionLogic.f
  rw [works_f _ (by omega), Option.bind_some, if_pos rfl]
  by_cases ha : (a.length : Int) > 12
  · rw [if_pos ha, miradorlaw15_RegionLogic.j0, if_pos rfl]
  · rw [if_neg ha]
    by_cases hb : (b.length : Int) > 12
    · rw [decide_eq_true hb, miradorlaw15_RegionLogic.j0, if_pos rfl]
    · rw [decide_eq_false hb, miradorlaw15_RegionLogic.j0, if_neg (by decide)]
      have l1 := comb_len keepMake a [] 24 (by simp; omega)
      have l2 := comb_len keepUnion a b 24 (by omega)
      have l3 := comb_len keepMinus a b 24 (by omega)
      have l4 := comb_len keepBoth a b 24 (by omega)
      rw [has_f k a x y (by omega) (by omega), has_f k b x y (by omega) (by omega), make_f a (by omega), union_f a b (by omega), minus_f a b (by omega), both_f a b (by omega)]
      simp only [Option.bind_some]
      rw [has_f k _ x y (by omega) (by omega), has_f k _ x y (by omega) (by omega), has_f k _ x y (by omega) (by omega), has_f k _ x y (by omega) (by omega)]
      simp only [Option.bind_some, has_make, has_union, has_minus, has_both]
      cases RG.has (a.map tr) x y <;> cases RG.has (b.map tr) x y <;> rfl
end Go.Proofs.Ytkobiblgbpnlaaa.RT
namespace Go.Proofs.Ytkobiblgbpnlaaa.H
open Go.RowKit Go.Proofs.YtkobiblgbpnlaaaW.PrintWords
theorem RegionLogic_walk (fa0 : Option Addr) (fb0 : Nat) (fc0 : List X.S26) (fa1 : Option Addr) (fb1 : Nat) (fc1 : List X.S26) (a2 a3 : Int) (W : World) (ga0 : fc0.length ≤ fb0) (gb0 : Kd.C X.k26 W fa0 fc0.length fc0) (ga1 : fc1.length ≤ fb1) (gb1 : Kd.C X.k26 W fa1 fc1.length fc1) (w2 : (Lit.int .i64 a2).wf = true) (w3 : (Lit.int .i64 a3).wf = true) :
    Calls Try.prog 5 #[.slice fa0 fc0.length fb0, .slice fa1 fc1.length fb1, .int .i64 a2, .int .i64 a3] W fun e w' => e = .returned (.bool true) ∧ Below W.heap.size W w' :=
  X.miradorlaw15_RegionLogic.calls1 (1000000 + 1) fa0 fb0 fc0 fa1 fb1 fc1 a2 a3 true W gb0 ga0 gb1 ga1 rfl (RT.logic_pure 1000000 (by decide) fc0 fc1 a2 a3)
end Go.Proofs.Ytkobiblgbpnlaaa.H
