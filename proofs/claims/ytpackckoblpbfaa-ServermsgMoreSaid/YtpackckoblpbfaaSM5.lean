import Derived.Test.YtpackckoblpbfaaSM4
/-! The kinds, of a text and of a longer one. -/
namespace Go.Proofs.Ytpackckoblpbfaa.H
set_option linter.unusedVariables false
open Go.RowKit Go.Proofs.Ytpackckoblpbfaa.X Go.Proofs.Ytpackckoblpbfaa.B Go.Proofs.Ytpackckoblpbfaa.O Go.Proofs.YtpackckoblpbfaaW.PrintWords Go.Proofs.YtpackckoblpbfaaW.PrintLast Go.Proofs.YtpackckoblpbfaaW.PrintMore
def kZ (t : ByteArray) (l : List Int) (q : RS) : Option ((List Int × ByteArray) × RS) := some ((l, t), q)
def kT (n : Int) (t : ByteArray) (q : RS) := (kindsL n.toNat q).bind fun p => kZ t p.1 p.2
def kC (n : Int) (q : RS) : Option (ByteArray × RS) := if q.ce = 0 ∧ n = 0 then textS q else some (⟨#[]⟩, q)
def kU (n : Int) (q : RS) := (kC n q).bind fun p => kT n p.1 p.2
def kV (n : Int) (q : RS) := if 0 ≤ n ∧ n ≤ 255 then kU n q else none
theorem kT_good (n : Int) (t : ByteArray) : Good Any (kT n t) := Good.bind (g := kZ t) (kindsL_good n.toNat) (fun l _ => Good.pure (l, t) trivial)
theorem kT_lock (n : Int) (t : ByteArray) : Lock Any (kT n t) := Lock.bind (g := kZ t) (kindsL_lock n.toNat) (fun l _ => Good.pure (l, t) trivial) (fun l _ => Lock.pure (l, t) trivial)
theorem kC_good (n : Int) : Good Any (kC n) := fun q h => by
  unfold kC
  by_cases hc : q.ce = 0 ∧ n = 0
  · rw [if_pos hc]; exact text_good q h
  · rw [if_neg hc]; exact Good.pure (P := Any) (⟨#[]⟩ : ByteArray) trivial q h
theorem kC_lock (n : Int) : Lock Any (kC n) := fun t q q' h h' hs => by
  have h1 := hs.2.2.1
  have h2 := hs.2.2.2.1
  unfold kC
  by_cases hc : n = 0
  · rw [if_pos ⟨h1, hc⟩, if_pos ⟨h2, hc⟩]; exact text_lock t q q' h h' hs
  · rw [if_neg (fun h => hc h.2), if_neg (fun h => hc h.2)]; exact Lock.pure (P := Any) (⟨#[]⟩ : ByteArray) trivial t q q' h h' hs
theorem kU_good (n : Int) : Good Any (kU n) := Good.bind (g := kT n) (kC_good n) (fun t _ => kT_good n t)
theorem kU_lock (n : Int) : Lock Any (kU n) := Lock.bind (g := kT n) (kC_lock n) (fun t _ => kT_good n t) (fun t _ => kT_lock n t)
theorem kV_eq {n : Int} (h : 0 ≤ n ∧ n ≤ 255) : kV n = kU n := by
  funext q
  exact if_pos h
theorem kinds_lock : Lock Any kindsS := Lock.bind (g := kV) (int_lock 1 (.inl rfl)) (fun n hn => by rw [kV_eq ⟨hn.1, hn.2 rfl⟩]; exact kU_good n) (fun n hn => by rw [kV_eq ⟨hn.1, hn.2 rfl⟩]; exact kU_lock n)
end Go.Proofs.Ytpackckoblpbfaa.H
