/- What a parameter of any type holds, told leaf by leaf (structs in structs, slices of them): from the reading 'DataW.trod'. No condition. -/
import Derived.Deep.Slices
import Derived.Deep.Fields
import Derived.Test.YtkobiblgbpnlaaaRows
namespace Go.Proofs.Ytkobiblgbpnlaaa.FL
open Go.ChangeShapes Go.WideShapes Go.Deep
set_option linter.unusedVariables false
/-- The leaves of a type (what is no struct), each with its cell. -/
def leavesAt (P : Program) : Nat → Nat → TypeId → List (Nat × TypeId)
  | 0, o, t => [(o, t)]
  | n + 1, o, t => match P.underlying t with
    | some (.struct fs) => fs.toList.flatMap fun f => leavesAt P n (o + f.offset) f.type
    | _ => [(o, t)]
section
variable {H : Type} {enc : TypeId × Value → H} {P : Program} {w : World} {base : Nat} {spare : Nat → Bool} {held : Bool}
theorem drop_take_window {α : Type} (l : List α) (o m a b : Nat) : ((((l.drop o).take m).drop a).take b) = (l.drop (o + a)).take (min b (m - a)) := by
  rw [List.drop_take, List.drop_drop, List.take_take]
theorem trod_leaf (Cs : List Value) : ∀ (n o : Nat) (t : TypeId) (m fuel : Nat) (x : DataW H × List MemPlace), DataW.trod enc P w base spare held fuel t ((Cs.drop o).take m) = some x →
    ∀ p ∈ leavesAt P n o t, ∃ m' fuel' y, DataW.trod enc P w base spare held fuel' p.2 ((Cs.drop p.1).take m') = some y
  | 0, o, t, m, fuel, x, h, p, hp => by
    simp only [leavesAt, List.mem_singleton] at hp
    subst hp
    exact ⟨m, fuel, x, h⟩
  | n + 1, o, t, m, fuel, x, h, p, hp => by
    unfold leavesAt at hp
    split at hp
    · rename_i fs hfs
      obtain ⟨f, hf, hp⟩ := List.mem_flatMap.1 hp
      obtain ⟨xs, n', _, _, _, hlen, hg⟩ := DataW.trod_struct hfs h
      obtain ⟨i, hi⟩ := List.mem_iff_getElem?.1 hf
      have h1 := hg i f (by simpa using hi)
      have hil : i < xs.length := by
        have := (List.getElem?_eq_some_iff.1 hi).1
        simp at this; omega
      rw [drop_take_window, List.getElem?_eq_getElem hil] at h1
      exact trod_leaf Cs n _ _ _ _ _ h1 p hp
    · simp only [List.mem_singleton] at hp
      subst hp
      exact ⟨m, fuel, x, h⟩
theorem window_one {α : Type} {l : List α} {o m : Nat} {v : α} (h : (l.drop o).take m = [v]) : l[o]? = some v := by
  have h2 : ((l.drop o).take m)[0]? = some v := by rw [h]; rfl
  rw [List.getElem?_take] at h2
  split at h2
  · simpa using h2
  · cases h2
variable {Cs : List Value} {T : TypeId} {fuel : Nat} {x : DataW H × List MemPlace}
theorem leaf_any (h : DataW.trod enc P w base spare held fuel T Cs = some x) (o : Nat) (t : TypeId) (hm : (leavesAt P 6 0 T).contains (o, t) = true) :
    ∃ m' fuel' y, DataW.trod enc P w base spare held fuel' t ((Cs.drop o).take m') = some y :=
  trod_leaf Cs 6 0 T Cs.length fuel x (by rw [List.drop_zero, List.take_length]; exact h) (o, t) (by simpa using hm)
theorem leaf_int (h : DataW.trod enc P w base spare held fuel T Cs = some x) (o : Nat) (t : TypeId) {k : IntKind} (ht : P.underlying t = some (.int k)) (hm : (leavesAt P 6 0 T).contains (o, t) = true) :
    ∃ n, Cs[o]? = some (.int k n) ∧ (Lit.int k n).wf = true := by
  obtain ⟨m', f', y, h1⟩ := leaf_any h o t hm
  obtain ⟨n, h2, _, h3⟩ := DataW.trod_int ht h1
  exact ⟨n, window_one h2, h3⟩
theorem leaf_bool (h : DataW.trod enc P w base spare held fuel T Cs = some x) (o : Nat) (t : TypeId) (ht : P.underlying t = some .bool) (hm : (leavesAt P 6 0 T).contains (o, t) = true) :
    ∃ b, Cs[o]? = some (.bool b) := by
  obtain ⟨m', f', y, h1⟩ := leaf_any h o t hm
  obtain ⟨b, h2, _⟩ := DataW.trod_bool ht h1
  exact ⟨b, window_one h2⟩
theorem leaf_str (h : DataW.trod enc P w base spare held fuel T Cs = some x) (o : Nat) (t : TypeId) (ht : P.underlying t = some .string) (hm : (leavesAt P 6 0 T).contains (o, t) = true) :
    ∃ s : ByteArray, Cs[o]? = some (.string s) ∧ s.size ≤ maxLen := by
  obtain ⟨m', f', y, h1⟩ := leaf_any h o t hm
  obtain ⟨b, h2, _, h3⟩ := DataW.trod_string ht h1
  exact ⟨b, window_one h2, h3⟩
theorem leaf_slice (h : DataW.trod enc P w base spare held fuel T Cs = some x) (o : Nat) (t : TypeId) {e : TypeId} (ht : P.underlying t = some (.slice e)) (hm : (leavesAt P 6 0 T).contains (o, t) = true) :
    ∃ a len cap f' y, Cs[o]? = some (.slice a len cap) ∧ DataW.trod enc P w base spare held f' t [.slice a len cap] = some y := by
  obtain ⟨m', f', y, h1⟩ := leaf_any h o t hm
  rcases DataW.trod_slice ht h1 with ⟨h2, _⟩ | ⟨a, len, cap, _, _, _, _, h2, _⟩
  · exact ⟨none, 0, 0, f', y, window_one h2, by rw [← h2]; exact h1⟩
  · exact ⟨some a, len, cap, f', y, window_one h2, by rw [← h2]; exact h1⟩
/-- The elements of a slice: the cells of each, and its own reading. -/
theorem open_elems {t e : TypeId} {a : Option Addr} {len cap : Nat} (ht : P.underlying t = some (.slice e)) (h : DataW.trod enc P w base spare held fuel t [.slice a len cap] = some x) :
    (len ≤ cap ∧ cap ≤ maxLen) ∧ (a = none → len = 0) ∧ ∀ ad, a = some ad → ∀ i, i < len → ∃ (cs : List Value) (f' : Nat) (y : DataW H × List MemPlace), cs.length = P.cellsOf e ∧ (∀ o v, cs[o]? = some v → w.cell? (ad.add (i * P.cellsOf e + o)) = some v) ∧ DataW.trod enc P w base spare held f' e cs = some y := by
  rcases open_slice ht h with ⟨h1, _⟩ | ⟨a', len', cap', m, n, D, Pl, h1, hb, hl, hm, hmm, hx, hi⟩
  · injection h1 with h1; injection h1 with h1 h2 h3; subst h1; subst h2; subst h3
    exact ⟨⟨Nat.le_refl _, Nat.zero_le _⟩, fun _ => rfl, fun ad h => by cases h⟩
  · injection h1 with h1; injection h1 with h1 h2 h3; subst h1; subst h2; subst h3
    refine ⟨⟨hl, hm⟩, (fun h => by cases h), fun ad had i hil => ?_⟩
    injection had with had; subst had
    obtain ⟨cs, hc, ht'⟩ := hi i (by rw [hmm]; split <;> omega)
    obtain ⟨_, hcl, hat⟩ := World.cells?_some hc
    refine ⟨cs, n, _, hcl, fun o v hv => ?_, ht'⟩
    have hol : o < P.cellsOf e := by rw [← hcl]; exact (List.getElem?_eq_some_iff.1 hv).1
    have := hat o hol
    rw [add_add] at this
    rw [this, hv]
end
/-- One thing for each place: a list. -/
theorem exists_list {α : Type} [Inhabited α] (R : Nat → α → Prop) : ∀ (n : Nat), (∀ i, i < n → ∃ x, R i x) → ∃ l : List α, l.length = n ∧ ∀ i, i < n → R i (l.getD i default)
  | 0, _ => ⟨[], rfl, fun i h => absurd h (Nat.not_lt_zero i)⟩
  | n + 1, h => by
    obtain ⟨l, hl, hr⟩ := exists_list R n (fun i hi => h i (by omega))
    obtain ⟨x, hx⟩ := h n (by omega)
    refine ⟨l ++ [x], by simp [hl], fun i hi => ?_⟩
    by_cases hin : i < n
    · have := hr i hin
      rw [List.getD_eq_getElem?_getD] at this ⊢
      rw [List.getElem?_append_left (by omega)]; exact this
    · obtain rfl : i = n := by omega
      rw [List.getD_eq_getElem?_getD, List.getElem?_append_right (by omega), hl, Nat.sub_self]
      exact hx
end Go.Proofs.Ytkobiblgbpnlaaa.FL
