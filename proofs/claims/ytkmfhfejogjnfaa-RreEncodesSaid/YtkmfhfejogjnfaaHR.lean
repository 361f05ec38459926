/- A region that draws its order, inside a fence or a round: what reads cells that stay as they are is taken first; what is left comes up one behind the other. No condition. -/
import Derived.OrdersIn
import Derived.OrdersHeld
import Derived.AtR
import Derived.Laws.World
namespace Go.Proofs.Ytkmfhfejogjnfaa.HR
open Go
set_option linter.unusedVariables false
/-- The operation defers nothing. -/
def calm (o : Oper) : Bool := match o.op with | .defer _ => false | _ => true
theorem calm_spec {o : Oper} (h : calm o = true) (c : Call) : o.op ≠ .defer c := fun e => by
  unfold calm at h; rw [e] at h; cases h
section
variable {F : Fence} {n : Nat} {P : Program} {ops : Array Oper} {md : Region.Mode} {Q : Exit → Act → World → Prop} {late : List Nat} {S : World → Prop}
theorem op_yields {i : Nat} {o : Oper} {v : Value} {a : Act} (hF : ∀ f, F.fn f) (hc : calm o = true) (hi : ops[i]? = some o) (hy : YieldsIf P ops S o v a)
    {K : Act → World → Prop} {w : World} (hS : S w) (h : K (a.put o.dst v) w) : wpOpIn F n P ops Q i K a w := by
  unfold wpOpIn
  simp only [hi]
  rcases hy with ⟨hw, hv⟩ | ⟨hw, rfl⟩
  · simp only [hw, if_true, Oper.wpIn, Oper.semAt_eq _ _ _ (calm_spec hc), hv w hS, Oper.uponIn]; exact ⟨fun _ _ => hF _, h⟩
  · simp only [hw, Bool.false_eq_true, if_false]; exact ⟨fun _ _ => hF _, h⟩
theorem op_put {j : Nat} {oi oj : Oper} {v : Value} (hF : ∀ f, F.fn f) (hcj : calm oj = true) (hj : ops[j]? = some oj) (hap : oi.apart ops oj = true)
    (hsi : ∀ cs b, oi.op ≠ .select cs b) (hsj : ∀ cs b, oj.op ≠ .select cs b)
    (hQ : ∀ c a w, Q (.panic c) (a.put oi.dst v) w → Q (.panic c) a w) {K : Act → World → Prop} {a : Act} {w : World}
    (hy : YieldsIf P ops S oi v a) (h : wpOpIn F n P ops Q j K (a.put oi.dst v) w) :
    wpOpIn F n P ops Q j (fun a' w' => YieldsIf P ops S oi v a' ∧ K (a'.put oi.dst v) w') a w := by
  obtain ⟨h1, h2, h3⟩ := Oper.apart_spec hap
  have keep : ∀ (a : Act), YieldsIf P ops S oi v a → ∀ u, YieldsIf P ops S oi v (a.put oj.dst u) := fun a hy u =>
    hy.of_same (execOp_put oi hsi a oj.dst u h3) (wanted_put oi a oj.dst u h3)
  have keepD : ∀ d, YieldsIf P ops S oi v { a with defers := d :: a.defers } := fun d => hy.of_same rfl rfl
  unfold wpOpIn at *
  simp only [hj] at *
  rw [wanted_put oj a oi.dst v h1] at h
  split
  · rename_i hw
    simp only [hw, if_true] at h
    unfold Oper.wpIn at *
    refine ⟨fun _ _ => hF _, ?_⟩
    have h := h.2
    rw [Oper.semAt_eq _ _ _ (calm_spec hcj), execOp_put oj hsj a oi.dst v h1] at h
    rw [Oper.semAt_eq _ _ _ (calm_spec hcj)]
    generalize (execOp a.eval oj).run P w = r at *
    cases r with
    | ok x w' =>
      cases x <;> simp only [Oper.uponIn] at h ⊢
      case value u => exact ⟨keep a hy u, by rw [← Act.put_comm a v u h2]; exact h⟩
      case skip => exact ⟨keep a hy _, by rw [← Act.put_comm a v undef h2]; exact h⟩
      case defer d =>
        refine ⟨keep _ (keepD d) _, ?_⟩
        rw [← Act.put_comm _ v undef h2, ← Act.put_defers]
        exact h
      case enter f args =>
        refine ⟨h.1, CallsIn.mono h.2 fun e w'' he => ?_⟩
        cases e with
        | returned u => exact ⟨keep a hy u, by rw [← Act.put_comm a v u h2]; exact he⟩
        | panicked c => exact hQ _ _ _ he
        | outgrown => exact he
      case row row args => exact ⟨h.1, RowsIn.mono h.2 fun u w'' he => ⟨keep a hy u, by rw [← Act.put_comm a v u h2]; exact he⟩⟩
      case round l f tmps assign body =>
        refine ⟨h.1, RoundIn.mono h.2 fun e w'' he => ?_⟩
        cases e with
        | returned u => exact ⟨keep a hy u, by rw [← Act.put_comm a v u h2]; exact he⟩
        | panicked c => exact hQ _ _ _ he
        | outgrown => exact he
    | halt x w' =>
      cases x <;> simp only [Oper.uponIn] at h ⊢
      case panic u => exact hQ _ _ _ h
  · rename_i hw
    simp only [hw] at h
    exact ⟨fun _ _ => hF _, keep a hy _, by rw [← Act.put_comm a v undef h2]; exact h.2⟩
/-- Number j waits for number i. -/
def reach (md : Region.Mode) (ops : Array Oper) : Nat → Nat → Nat → Bool
  | 0, _, _ => false
  | n + 1, j, i => match ops[j]? with | some o => o.after.toList.any fun e => Region.binds md e && (e.on == i || reach md ops n e.on i) | none => false
def waits (md : Region.Mode) (ops : Array Oper) (late : List Nat) (i : Nat) : Bool := late.all fun j => reach md ops ops.size j i
/-- What is listed waits for listed ones alone. -/
def Closed (md : Region.Mode) (ops : Array Oper) (listed : Array Bool) : Prop := ∀ j oj, ops[j]? = some oj → listed.getD j false = true → ∀ e ∈ oj.after, Region.binds md e = true → listed.getD e.on false = true
def closedB (md : Region.Mode) (ops : Array Oper) (listed : Array Bool) : Bool := (List.range ops.size).all fun j => !listed.getD j false || match ops[j]? with | some o => o.after.toList.all fun e => !Region.binds md e || listed.getD e.on false | none => true
theorem closed_of {listed : Array Bool} (h : closedB md ops listed = true) : Closed md ops listed := fun j oj hj hl e he hb => by
  have hlt : j < ops.size := (Array.getElem?_eq_some_iff.1 hj).1
  have h1 := List.all_eq_true.1 h j (List.mem_range.2 hlt)
  rw [hl, hj] at h1
  have h2 := List.all_eq_true.1 (by simpa using h1 : oj.after.toList.all (fun e => !Region.binds md e || listed.getD e.on false) = true) e (Array.mem_toList_iff.2 he)
  rw [hb] at h2
  simpa using h2
theorem getD_set_true {listed : Array Bool} {j k : Nat} (h : listed.getD k false = true) : (listed.setIfInBounds j true).getD k false = true := by
  by_cases hjk : j = k
  · subst hjk
    by_cases hlt : j < listed.size
    · simp [hlt]
    · simp [hlt] at h
  · rw [getD_set_ne false hjk]; exact h
theorem closed_set {listed : Array Bool} (hc : Closed md ops listed) {j : Nat} (hr : j ∈ Region.ready md ops listed) : Closed md ops (listed.setIfInBounds j true) := fun k ok hk hl e he hb => by
  obtain ⟨hjun, oj, hoj, hall⟩ := mem_ready.1 hr
  by_cases hjk : j = k
  · subst hjk
    obtain rfl := Option.some.inj (hoj.symm.trans hk)
    exact getD_set_true (hall e he hb)
  · rw [getD_set_ne false hjk] at hl
    exact getD_set_true (hc k ok hk hl e he hb)
theorem reach_listed {listed : Array Bool} (hc : Closed md ops listed) {i : Nat} : ∀ (n j : Nat) (oj : Oper), ops[j]? = some oj → (∀ e ∈ oj.after, Region.binds md e = true → listed.getD e.on false = true) → reach md ops n j i = true → listed.getD i false = true
  | 0, j, oj, _, _, h => by cases h
  | n + 1, j, oj, hj, hall, h => by
    unfold reach at h
    rw [hj] at h
    obtain ⟨e, he, h1⟩ := List.any_eq_true.1 h
    rw [Bool.and_eq_true, Bool.or_eq_true] at h1
    have h2 := hall e (Array.mem_toList_iff.1 he) h1.1
    rcases h1.2 with h3 | h3
    · rw [beq_iff_eq] at h3; rw [← h3]; exact h2
    · cases ho : ops[e.on]? with
      | none =>
        cases n with
        | zero => cases h3
        | succ n => unfold reach at h3; rw [ho] at h3; cases h3
      | some ok => exact reach_listed hc n e.on ok ho (fun e' he' hb' => hc e.on ok ho h2 e' he' hb') h3
/-- Whatever order is picked from here on, and S holds behind every operation but the late ones. -/
def anyH (F : Fence) (n : Nat) (P : Program) (md : Region.Mode) (ops : Array Oper) (Q : Exit → Act → World → Prop) (late : List Nat) (S : World → Prop) : Nat → Array Bool → Act → World → Prop
  | 0, listed, a, w => Region.ready md ops listed = [] ∧ Q .normal a w
  | fuel + 1, listed, a, w =>
    (Region.ready md ops listed = [] → Q .normal a w) ∧
    ∀ i ∈ Region.ready md ops listed, wpOpIn F n P ops Q i (fun a' w' => (i ∈ late ∨ S w') ∧ anyH F n P md ops Q late S fuel (listed.setIfInBounds i true) a' w') a w
theorem any_of_held : ∀ (fuel : Nat) (listed : Array Bool) (a : Act) (w : World), anyH F n P md ops Q late S fuel listed a w → wpAnyIn F n P md ops Q fuel listed a w
  | 0, _, _, _, h => h
  | fuel + 1, _, _, _, h => ⟨h.1, fun i hi => wpOpIn_mono (fun a' w' h' => any_of_held fuel _ a' w' h'.2) (h.2 i hi)⟩
theorem anyH_first {i : Nat} {oi : Oper} {v : Value} (hl : waits md ops late i = true) (hF : ∀ f, F.fn f) (hcs : ∀ (j : Nat) (o : Oper), ops[j]? = some o → calm o = true) (hi : ops[i]? = some oi) (hsel : ∀ (j : Nat) (o : Oper) cs b, ops[j]? = some o → o.op ≠ .select cs b)
    (hQ : ∀ c a w, Q (.panic c) (a.put oi.dst v) w → Q (.panic c) a w) :
    ∀ (fuel : Nat) (listed : Array Bool) (a : Act) (w : World),
      (∀ j oj, ops[j]? = some oj → j ≠ i → listed.getD j true = false → (∀ e ∈ oj.after, Region.binds md e = true → e.on ≠ i) → oi.apart ops oj = true) →
      Closed md ops listed → i ∈ Region.ready md ops listed → YieldsIf P ops S oi v a → S w →
      anyH F n P md ops Q late S fuel (listed.setIfInBounds i true) (a.put oi.dst v) w → anyH F n P md ops Q late S (fuel + 1) listed a w := by
  intro fuel
  induction fuel with
  | zero =>
    intro listed a w _ _ hr hy hS H
    refine ⟨fun h => (by rw [h] at hr; cases hr), fun j hj => ?_⟩
    by_cases hji : j = i
    · subst hji; exact op_yields hF (hcs _ _ hi) hi hy hS ⟨.inr hS, H⟩
    · have := ready_mono hj hji
      rw [H.1] at this
      cases this
  | succ fuel ih =>
    intro listed a w hfree hcl hr hy hS H
    refine ⟨fun h => (by rw [h] at hr; cases hr), fun j hj => ?_⟩
    by_cases hji : j = i
    · subst hji; exact op_yields hF (hcs _ _ hi) hi hy hS ⟨.inr hS, H⟩
    · have h1 := H.2 j (ready_mono hj hji)
      obtain ⟨hjun, oj, hoj, hall⟩ := mem_ready.1 hj
      have hnot : ∀ e ∈ oj.after, Region.binds md e = true → e.on ≠ i := fun e he hb heq => by
        have h1 := hall e he hb
        have h0 := (mem_ready.1 hr).1
        rw [heq] at h1
        rcases Nat.lt_or_ge i listed.size with h' | h'
        · simp [h'] at h0 h1; rw [h0] at h1; cases h1
        · simp [Array.getElem?_eq_none h'] at h1
      have h2 := op_put hF (hcs _ _ hoj) hoj (hfree j oj hoj hji hjun hnot) (fun cs b => hsel i oi cs b hi) (fun cs b => hsel j oj cs b hoj) hQ hy h1
      have hfree' : ∀ k ok, ops[k]? = some ok → k ≠ i → (listed.setIfInBounds j true).getD k true = false →
          (∀ e ∈ ok.after, Region.binds md e = true → e.on ≠ i) → oi.apart ops ok = true := fun k ok hk hki hun hno => by
        refine hfree k ok hk hki ?_ hno
        by_cases hjk : j = k
        · subst hjk; exact hjun
        · rw [getD_set_ne true hjk] at hun; exact hun
      have hnl : j ∉ late := fun hj2 => by
        have h4 := reach_listed hcl _ j oj hoj hall (List.all_eq_true.1 hl j hj2)
        have h5 := (mem_ready.1 hr).1
        rcases Nat.lt_or_ge i listed.size with h' | h'
        · simp [h'] at h4 h5; rw [h5] at h4; cases h4
        · simp [Array.getElem?_eq_none h'] at h4
      refine wpOpIn_mono (fun a' w' h3 => ⟨h3.2.1, ih (listed.setIfInBounds j true) a' w' hfree' (closed_set hcl hj) (ready_mono hr (Ne.symm hji)) h3.1 (h3.2.1.resolve_left hnl) ?_⟩) h2
      rw [Array.setIfInBounds_comm _ _ hji]
      exact h3.2.2
theorem calm_all (h : ops.toList.all calm = true) : ∀ (j : Nat) (o : Oper), ops[j]? = some o → calm o = true := fun j o hj =>
  List.all_eq_true.1 h o (Array.mem_toList_iff.2 (Array.mem_of_getElem? hj))
/-- Taken first: an operation that reads what stays as it is. -/
theorem take (i : Nat) {oi : Oper} {v : Value} {fuel : Nat} {listed : Array Bool} {a : Act} {w : World} (hl : waits md ops late i = true) (hcl : closedB md ops listed = true) (hF : ∀ f, F.fn f) (hcs : ops.toList.all calm = true) (hi : ops[i]? = some oi)
    (hs : Region.noSelect ops = true) (hf : Region.free md ops listed i = true) (hr : (Region.ready md ops listed).contains i = true)
    (hQ : ∀ c a w, Q (.panic c) (a.put oi.dst v) w → Q (.panic c) a w) (hS : S w) (hw : Region.wanted oi (yielded ops a.tmps) = true) (hy : ∀ w, S w → (execOp a.eval oi).run P w = .ok (.value v) w)
    (h : anyH F n P md ops Q late S fuel (listed.setIfInBounds i true) (a.put oi.dst v) w) : anyH F n P md ops Q late S (fuel + 1) listed a w :=
  anyH_first hl hF (calm_all hcs) hi (Region.noSelect_spec hs) hQ fuel listed a w (Region.free_spec hi hf) (closed_of hcl) (by simpa using hr) (.inl ⟨hw, hy⟩) hS h
/-- Only one may come up. -/
theorem one (i : Nat) {o : Oper} {fuel : Nat} {listed : Array Bool} {a : Act} {w : World} (hr : Region.ready md ops listed = [i]) (hi : ops[i]? = some o)
    (h : ∀ K : Act → World → Prop, (∀ a' w', (i ∈ late ∨ S w') ∧ anyH F n P md ops Q late S fuel (listed.setIfInBounds i true) a' w' → K a' w') → if Region.wanted o (yielded ops a.tmps) = true then Oper.wpIn F n P o a w K Q else (∀ f, o.about P w a.eval = some f → F.fn f) ∧ K (a.put o.dst undef) w) : anyH F n P md ops Q late S (fuel + 1) listed a w := by
  refine ⟨fun h0 => absurd (hr ▸ h0) (by simp), fun j hj => ?_⟩
  rw [hr] at hj
  obtain rfl : j = i := by simpa using hj
  exact wpOpIn_step hi h
theorem done {listed : Array Bool} {a : Act} {w : World} (hr : Region.ready md ops listed = []) (h : Q .normal a w) : ∀ fuel, anyH F n P md ops Q late S fuel listed a w
  | 0 => ⟨hr, h⟩
  | _ + 1 => ⟨fun _ => h, by rw [hr]; simp⟩
theorem region {id : Nat} {a : Act} {w : World} (late : List Nat) (S : World → Prop) (hm : P.follows .mixedOrders = true)
    (h : anyH F n P .any ops Q late S ops.size (Array.replicate ops.size false) a w.drew) : (Code.region id ops true).wpIn F n P Q a w :=
  wpIn_region_any hm (any_of_held _ _ _ _ h)
end
end Go.Proofs.Ytkmfhfejogjnfaa.HR
