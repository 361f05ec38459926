/- A region that draws its order, inside a round of a range over a function: one walk of the order of the text serves every order, if its operations only read and its callees only lay blocks. No condition. -/
import Derived.Lib.QuietBelowIn
import Derived.Sort.BigQuietIn
import Derived.AtR
namespace Go.Proofs.Ytkmfhfejogjnfaa.QR
open Go Go.Sort Go.RowKit
set_option linter.unusedVariables false
/-- The operation defers nothing. -/
def calm (o : Oper) : Bool := match o.op with | .defer _ => false | _ => true
theorem calm_spec {o : Oper} (h : calm o = true) (c : Call) : o.op ≠ .defer c := fun e => by
  unfold calm at h; rw [e] at h; cases h
section
variable {F : Fence} {n : Nat} {P : Program} {ops : Array Oper} {md : Region.Mode} {C : World → Prop}
theorem oper_quiet {o : Oper} {a : Act} {K : Act → Prop} {K' : Act → World → Prop} {Q' : Exit → Act → World → Prop} {w : World} (hnd : ∀ c, o.op ≠ .defer c) (hw : C w) (h : ∀ a w', C w' → K a → K' a w')
    (ha : o.askedIn F P a C) (hh : o.quietIn F n P a C K) : o.wpIn F n P a w K' Q' := by
  obtain ⟨v, h1, h2⟩ := hh
  have h3 := h1 w hw
  unfold Oper.quietAtIn at h3
  unfold Oper.wpIn
  refine ⟨ha w hw, ?_⟩
  rw [Oper.semAt_eq _ _ _ hnd]
  generalize (execOp a.eval o).run P w = r at *
  cases r with
  | ok x w' =>
    cases x <;> simp only [Oper.quietUponIn] at h3 <;> simp only [Oper.uponIn]
    case value u => obtain ⟨e1, e2⟩ := h3; rw [e1, e2]; exact h _ _ hw h2
    case skip => obtain ⟨e1, e2⟩ := h3; rw [e1, ← e2]; exact h _ _ hw h2
    case enter f args =>
      obtain ⟨e1, hd, hc⟩ := h3
      rw [e1]
      exact ⟨hd, hc.mono fun e w'' ⟨he, hw''⟩ => by subst he; exact h _ _ hw'' h2⟩
  | halt x w' => simp only [Oper.quietUponIn] at h3
theorem op_quiet {i : Nat} {a : Act} {K : Act → Prop} {K' : Act → World → Prop} {Q' : Exit → Act → World → Prop} {w : World} (hnd : ∀ o : Oper, ops[i]? = some o → ∀ c, o.op ≠ .defer c) (hC : C w) (h : ∀ a w', C w' → K a → K' a w')
    (hh : qOpIn F n P ops C i K a) : wpOpIn F n P ops Q' i K' a w := by
  unfold qOpIn at hh
  unfold wpOpIn
  split
  · rename_i ho; simp only [ho] at hh; exact h _ _ hC hh
  · rename_i o ho
    simp only [ho] at hh
    obtain ⟨ha, hh⟩ := hh
    split
    · rename_i hw; simp only [hw, if_true] at hh; exact oper_quiet (hnd o ho) hC h ha hh
    · rename_i hw; simp only [hw] at hh; exact ⟨ha w hC, h _ _ hC hh⟩
theorem any_quiet {Q : Act → Prop} {Q' : Exit → Act → World → Prop} (hnd : ∀ (i : Nat) (o : Oper), ops[i]? = some o → ∀ c, o.op ≠ .defer c) (hQ : ∀ a w, C w → Q a → Q' .normal a w) : ∀ (fuel : Nat) (listed : Array Bool) (a : Act) (w : World), C w →
    wpAnyQIn F n P md ops C Q fuel listed a → wpAnyIn F n P md ops Q' fuel listed a w
  | 0, _, _, _, hw, h => ⟨h.1, hQ _ _ hw h.2⟩
  | fuel + 1, _, _, _, hw, h => ⟨fun h0 => hQ _ _ hw (h.1 h0), fun i hi => op_quiet (hnd i) hw (fun a' w' hw' => any_quiet hnd hQ fuel _ a' w' hw') (h.2 i hi)⟩
theorem region_quiet {id : Nat} {Q : Exit → Act → World → Prop} {a : Act} {w : World} (hnd : ops.toList.all calm = true) (hm : P.follows .mixedOrders = true) (hB : Region.lexB .any ops = true) (hC : C { w with drawn := w.drawn + 1 })
    (h : wpQuietIn F n P ops C (fun a' => ∀ w', C w' → Q .normal a' w') ops.toList a) : (Code.region id ops true).wpIn F n P Q a w := by
  simp only [Region.lexB, Bool.and_eq_true] at hB
  refine wpIn_region_any hm (any_quiet (Q := fun a' => ∀ w', C w' → Q .normal a' w') (fun i o hi => ?_) (fun _ w' hw' h => h w' hw') _ _ _ _ hC ?_)
  · refine calm_spec (List.all_eq_true.1 hnd o ?_)
    exact Array.mem_toList_iff.2 (Array.mem_of_getElem? hi)
  · have := wpAnyQIn_lex (F := F) (n := n) (C := C) (md := .any) hB.1 ops.toList 0 (Array.replicate ops.size false) a (by simp) (by simpa using hB.2) h
    simpa using this
theorem region_quiet_below {id : Nat} {Q : Exit → Act → World → Prop} {a : Act} {w : World} {l : List Oper} (hnd : l.all calm = true) (hm : P.follows .mixedOrders = true) (hB : Region.lexB .any l.toArray = true)
    (h : wpQuietIn F n P l.toArray (fun w' => ∃ p : Regrown, w' = grow (redrawn w p.d) p.os) (fun a' => ∀ w', (∃ p : Regrown, w' = grow (redrawn w p.d) p.os) → Q .normal a' w') l a) : (Code.region id l.toArray true).wpIn F n P Q a w :=
  region_quiet (C := fun w' => ∃ p : Regrown, w' = grow (redrawn w p.d) p.os) hnd hm hB ⟨⟨w.drawn + 1, #[]⟩, by rw [grow_empty]; rfl⟩ (by simpa using h)
/-- A callee's contract that ends in 'Below', met in a world of the class, in a round. -/
theorem calls_regrown {F : Fence} {r : Nat} {P : Program} {f : FuncId} {args : Array Value} {w : World} {d : Nat} {os : Array Obj} {v : Value}
    (h : CallsIn F r P f args (grow (redrawn w d) os) fun e w' => e = .returned v ∧ Below (grow (redrawn w d) os).heap.size (grow (redrawn w d) os) w') : CallsIn F r P f args (grow (redrawn w d) os) fun e w'' => e = .returned v ∧ ∃ p : Regrown, w'' = grow (redrawn w p.d) p.os := CallsIn.regrown_of h
/-- One that leaves the world as it is. -/
theorem calls_same {F : Fence} {r : Nat} {P : Program} {f : FuncId} {args : Array Value} {w : World} {d : Nat} {os : Array Obj} {v : Value}
    (h : CallsIn F r P f args (grow (redrawn w d) os) fun e w' => e = .returned v ∧ w' = grow (redrawn w d) os) : CallsIn F r P f args (grow (redrawn w d) os) fun e w'' => e = .returned v ∧ ∃ p : Regrown, w'' = grow (redrawn w p.d) p.os :=
  h.mono fun _ _ ⟨he, hw⟩ => ⟨he, ⟨d, os⟩, hw⟩
end
end Go.Proofs.Ytkmfhfejogjnfaa.QR
