/- The law RegionAlgebra: the walk, out of the print's contract, and its plain law. No condition. -/
-- OPEN 0 Go.Proofs.Ytkobiblgbpnlaaa.RQ.open_rects fa fb fc : ga gb
-- OPEN 1 Go.Proofs.Ytkobiblgbpnlaaa.RQ.open_rects fa fb fc : ga gb
-- OPEN 2 Go.Proofs.Ytkobiblgbpnlaaa.RQ.open_rects fa fb fc : ga gb
import Derived.Test.YtkobiblgbpnlaaaRV
import Derived.Test.YtkobiblgbpnlaaaRQ
import Derived.Test.YtkobiblgbpnlaaaXx31
namespace Go.Proofs.Ytkobiblgbpnlaaa.RT
open Go.Proofs.Ytkobiblgbpnlaaa Go.Proofs.Ytkobiblgbpnlaaa.X Go.RowKit Go.Proofs.YtkobiblgbpnlaaaW.PrintWords Go.Proofs.YtkobiblgbpnlaaaW.PrintLast Go.Proofs.YtkobiblgbpnlaaaW.PrintMore
set_option linter.unusedVariables false
set_option linter.unusedSimpArgs false
theorem reg_eq {l m : List SR} {S T : Int → Int → Bool} (h : RG.IsReg (l.map tr) S) (k : RG.IsReg (m.map tr) T) (e : ∀ x y, S x y = T x y) : l = m := map_inj (h.unique k e)
theorem reg_nil {l : List SR} {S : Int → Int → Bool} (h : RG.IsReg (l.map tr) S) (e : ∀ x y, S x y = false) : l = [] := List.map_eq_nil_iff.1 (h.nil e)
theorem algebra_pure (k : Nat) (hk : 200000000 ≤ k) (a b c : List SR) : miradorlaw15_RegionAlgebra.f (k + 4) a b c = some true := by
  unfold miradorlaw15_RegionAlgebra.f
  rw [works_f _ (by omega), Option.bind_some, if_pos rfl]
  by_cases ha : (a.length : Int) > 12
  · rw [if_pos ha, miradorlaw15_RegionAlgebra.j0, if_pos rfl]
  rw [if_neg ha]
  by_cases hb : (b.length : Int) > 12
  · rw [if_pos hb, miradorlaw15_RegionAlgebra.j0, if_pos rfl]
  rw [if_neg hb]
  by_cases hc : (c.length : Int) > 12
  · rw [decide_eq_true hc, miradorlaw15_RegionAlgebra.j0, if_pos rfl]
  rw [decide_eq_false hc]
  have lU := comb_len keepUnion a b 24 (by omega)
  have lI := comb_len keepBoth a b 24 (by omega)
  have lD := comb_len keepMinus a b 24 (by omega)
  have lV := comb_len keepUnion b c 24 (by omega)
  have lac := comb_len keepBoth a c 24 (by omega)
  have lbc := comb_len keepBoth b c 24 (by omega)
  have laa := comb_len keepBoth a a 24 (by omega)
  have b1 := comb_len keepUnion (combS keepMinus a b) (combS keepBoth a b) 4608 (by omega)
  have b2 := comb_len keepUnion (combS keepUnion a b) c 4608 (by omega)
  have b3 := comb_len keepBoth (combS keepUnion a b) c 4608 (by omega)
  have b4 := comb_len keepMinus (combS keepMinus a b) c 4608 (by omega)
  have e1 : combS keepUnion a b = combS keepUnion b a := reg_eq (reg_union a b) (reg_union b a) (fun x y => Bool.or_comm _ _)
  have e2 : combS keepBoth a b = combS keepBoth b a := reg_eq (reg_both a b) (reg_both b a) (fun x y => Bool.and_comm _ _)
  have e3 : combS keepMinus a a = [] := reg_nil (reg_minus a a) (fun x y => by cases RG.has (a.map tr) x y <;> rfl)
  have e4 : combS keepBoth a a = combS keepMake a [] := reg_eq (reg_both a a) (reg_make a) (fun x y => Bool.and_self _)
  have e5 : combS keepUnion (combS keepMinus a b) (combS keepBoth a b) = combS keepMake a [] := reg_eq (reg_union _ _) (reg_make a) (fun x y => by rw [has_minus, has_both]; cases RG.has (a.map tr) x y <;> cases RG.has (b.map tr) x y <;> rfl)
  have e6 : combS keepBoth (combS keepMinus a b) b = [] := reg_nil (reg_both _ b) (fun x y => by rw [has_minus]; cases RG.has (a.map tr) x y <;> cases RG.has (b.map tr) x y <;> rfl)
  have e7 : combS keepUnion (combS keepUnion a b) c = combS keepUnion a (combS keepUnion b c) := reg_eq (reg_union _ _) (reg_union _ _) (fun x y => by rw [has_union, has_union, Bool.or_assoc])
  have e8 : combS keepBoth (combS keepUnion a b) c = combS keepUnion (combS keepBoth a c) (combS keepBoth b c) := reg_eq (reg_both _ _) (reg_union _ _) (fun x y => by rw [has_union, has_both, has_both]; cases RG.has (a.map tr) x y <;> cases RG.has (b.map tr) x y <;> cases RG.has (c.map tr) x y <;> rfl)
  have e9 : combS keepMinus (combS keepMinus a b) c = combS keepMinus a (combS keepUnion b c) := reg_eq (reg_minus _ _) (reg_minus _ _) (fun x y => by rw [has_minus, has_union]; cases RG.has (a.map tr) x y <;> cases RG.has (b.map tr) x y <;> cases RG.has (c.map tr) x y <;> rfl)
  rw [miradorlaw15_RegionAlgebra.j0, if_neg (by decide), union_f a b (by omega), Option.bind_some, both_f a b (by omega), Option.bind_some, minus_f a b (by omega), Option.bind_some, union_f b a (by omega), Option.bind_some, same_f _ _ _ e1 (by omega) (by omega), Option.bind_some, if_pos rfl, both_f b a (by omega), Option.bind_some, same_f _ _ _ e2 (by omega) (by omega), Option.bind_some]
  rw [miradorlaw15_RegionAlgebra.j1, minus_f a a (by omega), Option.bind_some, e3, if_pos (by rfl), both_f a a (by omega), Option.bind_some, make_f a (by omega), Option.bind_some, same_f _ _ _ e4 (by omega) (by omega), Option.bind_some]
  rw [miradorlaw15_RegionAlgebra.j2, union_f _ _ (by omega), Option.bind_some, make_f a (by omega), Option.bind_some, same_f _ _ _ e5 (by omega) (by omega), Option.bind_some, if_pos rfl, both_f _ b (by omega), Option.bind_some, e6]
  rw [miradorlaw15_RegionAlgebra.j3, union_f _ c (by omega), Option.bind_some, union_f b c (by omega), Option.bind_some, union_f a _ (by omega), Option.bind_some, same_f _ _ _ e7 (by omega) (by omega), Option.bind_some,
    both_f _ c (by omega), Option.bind_some, both_f a c (by omega), Option.bind_some, both_f b c (by omega), Option.bind_some, union_f _ _ (by omega), Option.bind_some, same_f _ _ _ e8 (by omega) (by omega), Option.bind_some,
    minus_f a b (by omega), Option.bind_some, minus_f _ c (by omega), Option.bind_some, Option.bind_some, minus_f a _ (by omega), Option.bind_some, same_f _ _ _ e9 (by omega) (by omega), Option.bind_some]
  rw [if_pos rfl, if_pos rfl, if_pos rfl, if_pos (by rfl), if_pos rfl, if_pos rfl, if_pos rfl]
  rw [area_f _ _ (by omega) (by omega), Option.bind_some, area_f _ _ (by omega) (by omega), Option.bind_some, area_f _ _ (by omega) (by omega), Option.bind_some, area_f _ _ (by omega) (by omega), Option.bind_some]
  have hp := RG.areaOf_plus (S := fun x y => RG.has ((combS keepUnion a b).map tr) x y) (T := fun x y => RG.has ((combS keepBoth a b).map tr) x y) (U := fun x y => RG.has (a.map tr) x y) (V := fun x y => RG.has (b.map tr) x y) (fun x y => by
    rw [has_union, has_both]; cases RG.has (a.map tr) x y <;> cases RG.has (b.map tr) x y <;> rfl)
  rw [hp]
  simp
end Go.Proofs.Ytkobiblgbpnlaaa.RT
namespace Go.Proofs.Ytkobiblgbpnlaaa.H
open Go.RowKit Go.Proofs.YtkobiblgbpnlaaaW.PrintWords
theorem RegionAlgebra_walk (fa0 : Option Addr) (fb0 : Nat) (fc0 : List X.S26) (fa1 : Option Addr) (fb1 : Nat) (fc1 : List X.S26) (fa2 : Option Addr) (fb2 : Nat) (fc2 : List X.S26) (W : World) (ga0 : fc0.length ≤ fb0) (gb0 : Kd.C X.k26 W fa0 fc0.length fc0) (ga1 : fc1.length ≤ fb1) (gb1 : Kd.C X.k26 W fa1 fc1.length fc1) (ga2 : fc2.length ≤ fb2) (gb2 : Kd.C X.k26 W fa2 fc2.length fc2) :
    Calls Try.prog 6 #[.slice fa0 fc0.length fb0, .slice fa1 fc1.length fb1, .slice fa2 fc2.length fb2] W fun e w' => e = .returned (.bool true) ∧ Below W.heap.size W w' :=
  X.miradorlaw15_RegionAlgebra.calls1 (200000000 + 4) fa0 fb0 fc0 fa1 fb1 fc1 fa2 fb2 fc2 true W gb0 ga0 gb1 ga1 gb2 ga2 rfl (RT.algebra_pure 200000000 (by decide) fc0 fc1 fc2)
end Go.Proofs.Ytkobiblgbpnlaaa.H
