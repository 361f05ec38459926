/- A slice of whole numbers inside a struct, told leaf by leaf. No condition. -/
import Derived.Test.YtclikkhkhoicfaaFL
import Derived.Test.YtclikkhkhoicfaaWWords
namespace Go.Proofs.Ytclikkhkhoicfaa.FL
open Go.ChangeShapes Go.WideShapes Go.Deep Go.RowKit Go.Proofs.YtclikkhkhoicfaaW.PrintWords Go.Proofs.YtclikkhkhoicfaaW.PrintLast Go.Proofs.YtclikkhkhoicfaaW.PrintMore
set_option linter.unusedVariables false
theorem leaf_ints {H : Type} {enc : TypeId × Value → H} {P : Program} {w : World} {base : Nat} {held : Bool} {Cs : List Value} {T : TypeId} {fuel : Nat} {x : DataW H × List MemPlace} (h : DataW.trod enc P w base (fun _ => true) held fuel T Cs = some x) (o : Nat) (t : TypeId) {e : TypeId} {k : IntKind} (ht : P.underlying t = some (.slice e)) (he : P.underlying e = some (.int k)) (hc : P.cellsOf e = 1) (hm : (leavesAt P 6 0 T).contains (o, t) = true) :
    ∃ (A : Option Addr) (l : List Int) (c : Nat), Cs[o]? = some (.slice A l.length c) ∧ Kd.C (Kd.int k) w A l.length l ∧ l.length ≤ c := by
  obtain ⟨a, len, cap, f', y, h1, h2⟩ := leaf_slice h o t ht hm
  have hz : ∃ zs : List Int, (a = none ∧ len = 0 ∧ cap = 0 ∧ zs = []) ∨ ∃ x, a = some x ∧ len ≤ cap ∧ cap ≤ maxLen ∧ zs.length = cap ∧ (∀ i, i < zs.length → w.cell? (x.add i) = some (.int k (zs.getD i 0))) ∧ ∀ n ∈ zs, (Lit.int k n).wf = true := by
    rcases open_ints ht he hc h2 with ⟨hcs, _⟩ | ⟨x, l, c, zs, hcs, _, hl, hm, hz, _, hcell, hwz⟩
    · simp at hcs
      obtain ⟨rfl, rfl, rfl⟩ := hcs
      exact ⟨[], .inl ⟨rfl, rfl, rfl, rfl⟩⟩
    · simp at hcs
      obtain ⟨rfl, rfl, rfl⟩ := hcs
      exact ⟨zs, .inr ⟨_, rfl, hl, hm, by simpa using hz, hcell, hwz⟩⟩
  obtain ⟨zs, hz⟩ := hz
  obtain ⟨l, rfl, hr, _, _, hcap⟩ := ReadsInt.ofRowC hz
  exact ⟨a, l, cap, h1, Kd.C_of_reads (d := (0 : Int)) (h1 := fun _ => rfl) hr, hcap⟩
theorem leaf_ints_w {H : Type} {enc : TypeId × Value → H} {P : Program} {w : World} {base : Nat} {held : Bool} {Cs : List Value} {T : TypeId} {fuel : Nat} {x : DataW H × List MemPlace} (h : DataW.trod enc P w base (fun _ => true) held fuel T Cs = some x) (o : Nat) (t : TypeId) {e : TypeId} {k : IntKind} (ht : P.underlying t = some (.slice e)) (he : P.underlying e = some (.int k)) (hc : P.cellsOf e = 1) (hm : (leavesAt P 6 0 T).contains (o, t) = true) :
    ∃ (A : Option Addr) (l : List Int) (c : Nat), Cs[o]? = some (.slice A l.length c) ∧ Kd.C (Kd.int k) w A l.length l ∧ l.length ≤ c ∧ ∀ n ∈ l, (Lit.int k n).wf = true := by
  obtain ⟨a, len, cap, f', y, h1, h2⟩ := leaf_slice h o t ht hm
  have hz : ∃ zs : List Int, (a = none ∧ len = 0 ∧ cap = 0 ∧ zs = []) ∨ ∃ x, a = some x ∧ len ≤ cap ∧ cap ≤ maxLen ∧ zs.length = cap ∧ (∀ i, i < zs.length → w.cell? (x.add i) = some (.int k (zs.getD i 0))) ∧ ∀ n ∈ zs, (Lit.int k n).wf = true := by
    rcases open_ints ht he hc h2 with ⟨hcs, _⟩ | ⟨x, l, c, zs, hcs, _, hl, hm, hz, _, hcell, hwz⟩
    · simp at hcs
      obtain ⟨rfl, rfl, rfl⟩ := hcs
      exact ⟨[], .inl ⟨rfl, rfl, rfl, rfl⟩⟩
    · simp at hcs
      obtain ⟨rfl, rfl, rfl⟩ := hcs
      exact ⟨zs, .inr ⟨_, rfl, hl, hm, by simpa using hz, hcell, hwz⟩⟩
  obtain ⟨zs, hz⟩ := hz
  obtain ⟨l, rfl, hr, _, hwf, hcap⟩ := ReadsInt.ofRowC hz
  exact ⟨a, l, cap, h1, Kd.C_of_reads (d := (0 : Int)) (h1 := fun _ => rfl) hr, hcap, hwf⟩
end Go.Proofs.Ytclikkhkhoicfaa.FL
