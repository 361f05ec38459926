/- A range over a function: words for the loops of this seat (what a round keeps; the law for a body that never leaves; boxed rows). No condition. -/
import Derived.RangeFuncNested
import Derived.RangeFuncBound
import Derived.RangeFuncCalls
import Derived.RangeFuncLeaves
import Derived.RangeFuncFrom
import Derived.RangeFuncBox
import Derived.Shelf.Abstract
import Derived.Shelf.RegionOpen
import Derived.WalkKit
import Derived.OwnWalkIn
import Derived.TacticsInMore
import Derived.LoopNIn
import Derived.LoopIn
import Derived.Sort.QuietIn
import Derived.Lib.Hide
import Derived.Maps.AppendAt
import Derived.Test.YtkmfhfejogjnfaaWWords
namespace Go.Proofs.Ytkmfhfejogjnfaa.RX
open Go.RowKit Go.Shelf Go.Proofs.YtkmfhfejogjnfaaW.PrintWords Go.Proofs.YtkmfhfejogjnfaaW.PrintLast Go.Proofs.YtkmfhfejogjnfaaW.PrintMore
set_option linter.unusedVariables false
set_option linter.unusedSimpArgs false
attribute [local go_sem] Oper.semAt_some
/-- What a round keeps: all that lay below n₀, but block rb. -/
def KeepRow (n₀ rb : Nat) (W W' : World) : Prop := W.heap.size ≤ W'.heap.size ∧ ∀ k, k < n₀ → k ≠ rb → W'.heap[k]? = W.heap[k]?
theorem keepRow_t {n₀ rb : Nat} {A B C : World} (h : KeepRow n₀ rb A B) (k : KeepRow n₀ rb B C) : KeepRow n₀ rb A C := ⟨Nat.le_trans h.1 k.1, fun q hq hn => (k.2 q hq hn).trans (h.2 q hq hn)⟩
theorem keepRow_b {n₀ rb : Nat} {w : World} (hn : n₀ ≤ w.heap.size) (W : World) (l : Nat) (o o' : Obj) (hl : w.heap.size ≤ l) (h : W.heap[l]? = some o) (_ : o.isCells = false) (_ : o.isWalk = false) : KeepRow n₀ rb W (W.putObj l o') := by
  refine ⟨(grownBy_putObj' W l o').size, fun k hk _ => (grownBy_putObj' W l o').block k (by have := (Array.getElem?_eq_some_iff.1 h).1; omega) (fun e => by cases e; omega)⟩
theorem grownBy_drewN_ (w : World) (q : Nat) : w.grownBy (w.drewN q) none := ⟨rfl, rfl, rfl, Nat.le_refl _, fun _ _ _ => rfl⟩
theorem grownBy_below_ {W W' : World} (h : Below W.heap.size W W') : W.grownBy W' none := ⟨h.os, h.tape, h.output, h.size, fun k hk _ => h.block k hk⟩
theorem keepRow_refl (n₀ rb : Nat) (W : World) : KeepRow n₀ rb W W := ⟨Nat.le_refl _, fun _ _ _ => rfl⟩
theorem keepRow_below {n₀ rb : Nat} {W W' : World} (hn : n₀ ≤ W.heap.size) (h : Below W.heap.size W W') : KeepRow n₀ rb W W' := ⟨h.size, fun k hk _ => h.block k (by omega)⟩
/-- All is as it was but block rb (and what is new). -/
structure KP (rb : Nat) (W W' : World) : Prop where
  os : W'.os = W.os
  tape : W'.tape = W.tape
  output : W'.output = W.output
  size : W.heap.size ≤ W'.heap.size
  block : ∀ k, k < W.heap.size → k ≠ rb → W'.heap[k]? = W.heap[k]?
theorem KP.refl (rb : Nat) (W : World) : KP rb W W := ⟨rfl, rfl, rfl, Nat.le_refl _, fun _ _ _ => rfl⟩
theorem KP.trans {rb : Nat} {A B C : World} (h : KP rb A B) (k : KP rb B C) : KP rb A C := ⟨k.os.trans h.os, k.tape.trans h.tape, k.output.trans h.output, Nat.le_trans h.size k.size, fun q hq hn => (k.block q (Nat.lt_of_lt_of_le hq h.size) hn).trans (h.block q hq hn)⟩
theorem KP.of_below {rb : Nat} {A B : World} (h : Below A.heap.size A B) : KP rb A B := ⟨h.os, h.tape, h.output, h.size, fun q hq _ => h.block q hq⟩
theorem KP.alloc {rb : Nat} {A B : World} (h : KP rb A B) (o : Obj) : KP rb A (B.alloc o) := h.trans (KP.of_below (below_alloc (Below.refl _ _) o))
theorem KP.drewN {rb : Nat} {A B : World} (h : KP rb A B) (q : Nat) : KP rb A (B.drewN q) := ⟨h.os, h.tape, h.output, h.size, h.block⟩
theorem KP.setCell {rb : Nat} {A B : World} (h : KP rb A B) (j : Nat) (v : Value) : KP rb A (B.setCell ⟨rb, j, none⟩ v) := h.trans ⟨rfl, rfl, rfl, by simp [World.setCell], fun q hq hn => Below.heap_setCell B ⟨rb, j, none⟩ v q hn⟩
theorem KP.below {rb B : Nat} {W W' : World} (h : KP rb W W') (hB : B ≤ rb) (hs : B ≤ W.heap.size) : Below B W W' := ⟨h.os, h.tape, h.output, h.size, fun k hk => h.block k (by omega) (by omega)⟩
theorem KP.kept {rb : Nat} {W W' : World} (h : KP rb W W') : Kept W W' (fun k => k = rb) := ⟨h.size, fun k hk hn => h.block k hk hn⟩
theorem KP.keepRow {rb : Nat} {W W' : World} (h : KP rb W W') {n₀ : Nat} (hn : n₀ ≤ W.heap.size) : KeepRow n₀ rb W W' := ⟨h.size, fun k hk hne => h.block k (by omega) hne⟩
theorem ownFrom_kp {β : Type} {rb : Nat} {W0 : World} {B : Nat} (hB : W0.heap.size ≤ B) : OwnFrom B (fun (_ : β) W => KP rb W0 W) := fun s W W' row hs hg hr =>
  ⟨hg.os.trans hs.os, hg.tape.trans hs.tape, hg.output.trans hs.output, Nat.le_trans hs.size hg.size, fun k hk hn => (hg.block k (by have := hs.size; omega) (fun h => by have := (hr k h.symm).1; omega)).trans (hs.block k hk hn)⟩
/-- Of a region's ways out the normal one alone. -/
def onlyN (K : Act → World → Prop) : Exit → Act → World → Prop
  | .normal, a, w => K a w
  | _, _, _ => False
theorem wpIn_only {F : Fence} {n : Nat} {P : Program} {c : Code} {Q : Exit → Act → World → Prop} {a : Act} {w : World} (h : c.wpIn F n P (onlyN (fun a w => Q .normal a w)) a w) : c.wpIn F n P Q a w :=
  wpIn_mono h (fun e a w hq => by cases e <;> first | exact hq | exact hq.elim)
/-- A region that draws its order, of which all ways come to one frame: the rest is walked once. -/
theorem wpIn_split {F : Fence} {n : Nat} {P : Program} {c : Code} {Q : Exit → Act → World → Prop} {a : Act} {w : World} (R : World → Prop)
    (h : ∃ T : Array Value, c.wpIn F n P (onlyN (fun a' w' => a' = { tmps := T, defers := a.defers } ∧ R w')) a w ∧ ∀ w', R w' → Q .normal { tmps := T, defers := a.defers } w') : c.wpIn F n P Q a w := by
  obtain ⟨T, h1, h2⟩ := h
  refine wpIn_mono h1 (fun e a' w' hq => ?_)
  cases e with
  | normal => obtain ⟨rfl, hr⟩ := hq; exact h2 _ hr
  | _ => exact hq.elim
/-- The law of a range over a function, for a body that never leaves; the frame behind the assignment is found by the walk. -/
theorem rf_all {P : Program} {n : Nat} {α : Type} {g : Operand} {ps : Array Tmp} {assign body : Code} {Q : Exit → Act → World → Prop} {a : Act} {w : World} (h1 : 1 ≤ n) {gf : Nat} {lb : Array Value} (hg : a.eval g = .func (.func gf) #[] lb)
    (eg : ∀ args w, (callFunc gf args).run P w = .ok (.enter gf args) w) {encs : α → Array Value} {Kp : World → World → Prop} {S Sp : List α → Prop} {N : Nat} (hseq : SeqStopsK Fence.wide (n - 1) P gf lb encs Kp S Sp N w)
    (hKt : ∀ {A B C : World}, Kp A B → Kp B C → Kp A C) (hKb : ∀ (W : World) (l : Nat) (o o' : Obj), w.heap.size ≤ l → W.heap[l]? = some o → o.isCells = false → o.isWalk = false → Kp W (W.putObj l o')) (hps : ∀ x, (encs x).size = ps.size)
    (I : List α → World → Prop) (hI : OwnFrom w.heap.size I) (h0 : I [] w)
    (h : ∃ a₁ : α → Act, (∀ (l : Nat) (x : α) (W : World) (K : Act → World → Prop), K (a₁ x) W →
      assign.wpIn (Fence.wide.inRound l) (n - 1 - 1) P (Exit.then K (fun _ _ _ => False)) { tmps := (ps.zip (encs x)).foldl (fun t (p, v) => t.setIfInBounds p v) a.tmps, defers := [] } W) ∧
      (∀ (l : Nat) (pre : List α) (x : α) (W : World), I pre W → pre.length < N → body.wpIn (Fence.wide.inRound l) (n - 1 - 1) P (ownPostK Kp I (fun _ _ _ => False) (pre ++ [x]) W) (a₁ x) W) ∧
      (∀ (D : Nat) (xs : List α) (W : World), w.heap.size ≤ D → S xs → I xs W → W.heap[D]? = some (.deferred (some [])) → Q .normal { a with defers := { target := .collected D, args := #[] } :: a.defers } W)) :
    (Code.rangeFunc g ps assign body).wpIn Fence.wide n P Q a w := by
  obtain ⟨a₁, ha, hb, hd⟩ := h
  exact wpIn_rangeFunc_ownF rfl h1 hg trivial eg hseq hKt hKb (Below.refl _ _) hps I (fun _ _ _ => False) hI (fun _ _ _ _ _ hs _ _ => hs) h0 a₁ ha hb hd (fun _ _ _ _ _ _ h _ => h.elim)
/-- A boxed row that has been appended to and laid back. -/
theorem boxed_appended {W w1 : World} {n₀ B : Nat} {t e : TypeId} {size : Nat} {v v' : Value} {k m : Nat} {xs ys : List Value} (hv : Boxed W B t v) (hte : t ≠ e) (hrow : W.ownsRow n₀ e size v k xs) (hown' : w1.ownsRow n₀ e size v' m ys) (hgrow : W.grownBy w1 v.ownBlock) :
    Boxed w1 B t v ∧ Boxed (w1.setCell ⟨B, 0, none⟩ v') B t v' ∧ (w1.setCell ⟨B, 0, none⟩ v').ownsRow n₀ e size v' m ys ∧ KeepsOthers W (w1.setCell ⟨B, 0, none⟩ v') ∧ (∀ W0, KP B W0 W → W0.heap.size ≤ n₀ → KP B W0 (w1.setCell ⟨B, 0, none⟩ v')) := by
  have hv1 : Boxed w1 B t v := hv.kept hgrow (hv.not_row hte hrow)
  refine ⟨hv1, hv1.set v', hown'.kept (grownBy_setCell' w1 B v') (.inr (hv1.not_row hte hown').symm), ?_, ?_⟩
  · refine (KeepsOthers.of_grownBy hgrow fun j o ej hj => ?_).trans (KeepsOthers.setCell _ _ _)
    rcases hrow.2 with ⟨rfl, _⟩ | ⟨g, cap, cur, rfl, _, hgb, _⟩
    · simp [Value.ownBlock] at ej
    · obtain rfl : g = j := by simpa [Value.ownBlock] using ej
      rw [hgb] at hj; cases hj; rfl
  · intro W0 h0 hn
    refine KP.setCell ⟨hgrow.os.trans h0.os, hgrow.tape.trans h0.tape, hgrow.output.trans h0.output, Nat.le_trans h0.size hgrow.size, fun q hq hne => ?_⟩ 0 v'
    exact (hgrow.block q (by have := h0.size; omega) (fun h => by have := own_base hrow q h.symm; omega)).trans (h0.block q hq hne)
end Go.Proofs.Ytkmfhfejogjnfaa.RX
