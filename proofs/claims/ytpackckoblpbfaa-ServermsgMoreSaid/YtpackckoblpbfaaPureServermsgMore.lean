import Derived.Test.YtpackckoblpbfaaSM8
import Derived.Test.YtpackckoblpbfaaXx49
import Derived.Test.YtpackckoblpbfaaXx21
namespace Go.Proofs.Ytpackckoblpbfaa.Pure
open Go.RowKit Go.Proofs.Ytpackckoblpbfaa.X Go.Proofs.Ytpackckoblpbfaa.B Go.Proofs.Ytpackckoblpbfaa.H Go.Proofs.YtpackckoblpbfaaW.PrintWords Go.Proofs.YtpackckoblpbfaaW.PrintLast
theorem ServermsgMore : miradorlaw23_ServermsgMore.Pure := by
  intro a0 a1 h0 h1
  refine ⟨1, ?_⟩
  unfold miradorlaw23_ServermsgMore.f
  refine bind_eq miradorlaw23_works.at0 ?_
  rw [if_pos rfl]
  by_cases c0 : (a0.size : Int) > 5000
  · rw [if_pos c0]; rfl
  rw [if_neg c0]
  by_cases c1 : (a1.size : Int) > 5000
  · rw [decide_eq_true c1]; rfl
  rw [decide_eq_false c1]
  have hz : (a0 ++ a1).size = a0.size + a1.size := ByteArray.size_append
  have s1 : a0.size ≤ 4611686018427387904 := by omega
  have s2 : (a0 ++ a1).size ≤ 4611686018427387904 := by omega
  have hsz : a0.size + a1.size ≤ 9223372036854775807 := by omega
  rw [show (1 : Nat) = 0 + 1 from rfl, miradorlaw23_ServermsgMore.j0.eq_2]
  refine (if_neg (show ¬ (false = true) by decide)).trans ?_
  obtain ⟨x1, y1, p1, q1, r1⟩ := pair start_lock (fun v p => (v.1, v.2.1, v.2.2.1, v.2.2.2.1, v.2.2.2.2.1, v.2.2.2.2.2.1, v.2.2.2.2.2.2.1, v.2.2.2.2.2.2.2.1, v.2.2.2.2.2.2.2.2.1, v.2.2.2.2.2.2.2.2.2.1, v.2.2.2.2.2.2.2.2.2.2.1, v.2.2.2.2.2.2.2.2.2.2.2.1, v.2.2.2.2.2.2.2.2.2.2.2.2, p.at_, (0 : Int))) (fun p => (0, 0, 0, 0, false, false, 0, 0, 0, 0, 0, 0, ⟨#[]⟩, (0 : Int), if p.re = 0 then p.ce else p.re)) (fun b => b.2.2.2.2.2.2.2.2.2.2.2.2.2.1) (fun b => b.2.2.2.2.2.2.2.2.2.2.2.2.2.2) (fun _ _ => rfl) (fun _ _ => rfl) (fun _ => rfl) (fun _ => rfl) a0 a1 s1 s2
  obtain ⟨x2, y2, p2, q2, r2⟩ := pair msg_lock (fun v p => (v.1, false, v.2.1, (0 : Int), (0 : Int), (0 : Int), (0 : Int), (0 : Int), (0 : Int), false, false, (0 : Int), (0 : Int), (0 : Int), (0 : Int), (0 : Int), (0 : Int), ([] : List Int), v.2.2, p.at_, (0 : Int))) (fun p => (0, false, 0, 0, 0, 0, 0, 0, 0, false, false, 0, 0, 0, 0, 0, 0, [], ⟨#[]⟩, (0 : Int), if p.re = 0 then p.ce else p.re)) (fun b => b.2.2.2.2.2.2.2.2.2.2.2.2.2.2.2.2.2.2.2.1) (fun b => b.2.2.2.2.2.2.2.2.2.2.2.2.2.2.2.2.2.2.2.2) (fun _ _ => rfl) (fun _ _ => rfl) (fun _ => rfl) (fun _ => rfl) a0 a1 s1 s2
  obtain ⟨x3, y3, p3, q3, r3⟩ := pair head_lock (fun v p => (v.1, v.2.1, v.2.2.1, v.2.2.2.1, v.2.2.2.2, p.at_, (0 : Int))) (fun p => (0, 0, 0, 0, 0, (0 : Int), if p.re = 0 then p.ce else p.re)) (fun b => b.2.2.2.2.2.1) (fun b => b.2.2.2.2.2.2) (fun _ _ => rfl) (fun _ _ => rfl) (fun _ => rfl) (fun _ => rfl) a0 a1 s1 s2
  obtain ⟨x4, y4, p4, q4, r4⟩ := pair result_lock (fun v p => (v, p.at_, (0 : Int))) (fun p => (⟨#[]⟩, (0 : Int), if p.re = 0 then p.ce else p.re)) (fun b => b.2.1) (fun b => b.2.2) (fun _ _ => rfl) (fun _ _ => rfl) (fun _ => rfl) (fun _ => rfl) a0 a1 s1 s2
  obtain ⟨x5, y5, p5, q5, r5⟩ := pair kinds_lock (fun v p => (v.1, v.2, p.at_, (0 : Int))) (fun p => ([], ⟨#[]⟩, (0 : Int), if p.re = 0 then p.ce else p.re)) (fun b => b.2.2.1) (fun b => b.2.2.2) (fun _ _ => rfl) (fun _ _ => rfl) (fun _ => rfl) (fun _ => rfl) a0 a1 s1 s2
  refine bind_eq (a := x1) p1 ?_
  rw [if_pos hsz]
  refine bind_eq (a := y1) q1 ?_
  refine bind_eq r1 ?_
  refine bind_eq (a := x2) p2 ?_
  refine bind_eq (a := y2) q2 ?_
  refine bind_eq r2 ?_
  refine bind_eq (a := x3) p3 ?_
  refine bind_eq (a := y3) q3 ?_
  refine bind_eq r3 ?_
  refine bind_eq (a := x4) p4 ?_
  refine bind_eq (a := y4) q4 ?_
  refine bind_eq r4 ?_
  refine bind_eq (a := x5) p5 ?_
  refine bind_eq (a := y5) q5 ?_
  exact bind_eq r5 rfl
end Go.Proofs.Ytpackckoblpbfaa.Pure
