/- A whole element of a slice of structs, loaded; a whole message, stored. No condition. -/
import Derived.Test.YtclikkhkhoicfaaMM1
import Derived.Test.YtclikkhkhoicfaaXx20
import Derived.Test.YtclikkhkhoicfaaXx14
import Derived.Test.YtclikkhkhoicfaaXx21
import Derived.Test.YtclikkhkhoicfaaXx29
namespace Go.Proofs.Ytclikkhkhoicfaa.H
open Go.RowKit Go.Proofs.YtclikkhkhoicfaaW.PrintWords Go.Proofs.YtclikkhkhoicfaaW.PrintLast Go.Proofs.YtclikkhkhoicfaaW.PrintMore Go.Proofs.Ytclikkhkhoicfaa.X Go.Proofs.Ytclikkhkhoicfaa.RC
set_option linter.unusedVariables false
set_option linter.unusedSimpArgs false
def elOk (W : World) (a : Addr) (n : Nat) : Bool := (List.range n).all fun j => (W.cell? (a.add j)).isSome
def elAt (W : World) (a : Addr) (n : Nat) : Array Value := ((List.range n).map fun j => (W.cell? (a.add j)).getD (.int .i64 0)).toArray
theorem load_el {P : Program} {ty : TypeId} {n : Nat} {d : TypeDesc} (hu : P.underlying ty = some d) (hd : (match d with | .struct _ | .array _ _ => true | _ => false) = true) (hi : (P.info? ty).map (·.size) = some n) (W : World) (a : Addr) (h : elOk W a n = true) : (loadVar ty a).run P W = .ok (.agg (elAt W a n)) W := by
  have hl : (loadCells a ((List.range n).map fun j => (W.cell? (a.add j)).getD (.int .i64 0)).length).run P W = .ok (elAt W a n) W :=
    run_loadCells_list (P := P) W a _ (fun j v hv => by
      obtain ⟨hj, e⟩ := List.getElem?_eq_some_iff.1 hv
      simp only [List.length_map, List.length_range] at hj
      simp only [List.getElem_map, List.getElem_range] at e
      have := List.all_eq_true.1 h j (List.mem_range.2 hj)
      obtain ⟨u, hu⟩ := Option.isSome_iff_exists.1 this
      rw [hu] at e ⊢
      simpa using e)
  cases hq : P.info? ty with
  | none => simp [hq] at hi
  | some i =>
    have hs : i.size = n := by simpa [hq] using hi
    have hagg : (isAgg ty).run P W = .ok true W := by
      unfold isAgg
      rw [Sem.run_bind, run_underlying hu W]
      cases d <;> simp_all
    simp only [List.length_map, List.length_range] at hl
    simp [loadVar, Sem.run_bind, hagg, sizeOf, typeInfo, hq, hs, hl]
theorem ldOut_el {P : Program} {ty : TypeId} {n : Nat} {d : TypeDesc} (hu : P.underlying ty = some d) (hd : (match d with | .struct _ | .array _ _ => true | _ => false) = true) (hi : (P.info? ty).map (·.size) = some n) (W : World) (a : Addr) (h : elOk W a n = true) : ldOut P ty W (.pointer (some a)) = .ok (.value (.agg (elAt W a n))) W := by
  unfold ldOut
  simp only [Instr.loadAt, Instr.sureAddr, Sem.run_bind, Sem.run_pure, Result.andThen_ok, load_el hu hd hi W a h]
theorem el_of {W : World} {a : Addr} {row : List Value} (h : ∀ o u, row[o]? = some u → W.cell? (a.add o) = some u) : elOk W a row.length = true ∧ elAt W a row.length = row.toArray := by
  constructor
  · unfold elOk
    refine List.all_eq_true.2 fun j hj => ?_
    have hj := List.mem_range.1 hj
    rw [h j _ (List.getElem?_eq_getElem hj)]; rfl
  · unfold elAt
    congr 1
    apply List.ext_getElem?
    intro j
    by_cases hj : j < row.length
    · rw [List.getElem?_map, List.getElem?_range hj, List.getElem?_eq_getElem hj, Option.map_some, h j _ (List.getElem?_eq_getElem hj)]; rfl
    · rw [List.getElem?_eq_none (by simp; omega), List.getElem?_eq_none (by omega)]
theorem cell_form {w : World} {a : Addr} {j : Nat} {v : Value} (h : w.cell? (a.add j) = some v) : w.cell? ⟨a.block, a.off + j, none⟩ = some v := by
  obtain ⟨b, o, sp⟩ := a
  by_cases hj : j = 0
  · subst hj
    have e : (⟨b, o, sp⟩ : Addr).add 0 = ⟨b, o, sp⟩ := by simp [Addr.add]
    rw [e] at h
    cases sp with
    | none => exact h
    | some s =>
      exfalso
      unfold World.cell? at h
      split at h <;> simp at h
  · have e : (⟨b, o, sp⟩ : Addr).add j = ⟨b, o + j, none⟩ := by simp [Addr.add, hj]
    rwa [e] at h
/-! A whole row, stored: what is read behind it. -/
theorem rowAt_row {W : World} {g : Nat} {t : TypeId} {n : Nat} {cs : Array Value} (h : X.rowAt W g t n = true) (hn : cs.size = n) : X.rowAt (W.setRow g cs) g t n = true := by
  obtain ⟨old, h1, _⟩ := X.of_rowAt h
  exact X.rowAt_of (setRow_heap W g old cs t _ h1) hn
theorem rowAt_new (W : World) (cs : Array Value) (h : cs.size = 19) : X.rowAt (W.alloc (.cells cs 30)) W.heap.size 30 19 = true := X.rowAt_of (heap_alloc_new W _) h
theorem cell_row_ne {W : World} {a : Addr} {g : Nat} {cs : Array Value} (h : a.block ≠ g) : (W.setRow g cs).cell? a = W.cell? a := by unfold World.cell?; rw [setRow_other W g a.block cs h]
theorem cell_row33 {W : World} {g o : Nat} {cs : Array Value} (h : X.rowAt W g 30 19 = true) : (W.setRow g cs).cell? ⟨g, o, none⟩ = cs[o]? := by
  obtain ⟨old, h1, _⟩ := X.of_rowAt h
  unfold World.cell?
  rw [setRow_heap W g old cs _ _ h1]
  rfl
theorem exec_store_M (ρ : Operand → Value) (d : Option Tmp) (x y : Operand) (ty : TypeId) (ps : String) (af : Array Edge) (gd : Option (Nat × Bool)) (P : Program) (W : World) : (execOp ρ ⟨d, .store 30 x y, ty, ps, af, gd⟩).run P W = stOut P 30 W (ρ x) (ρ y) := rfl
theorem exec_load_M (ρ : Operand → Value) (d : Option Tmp) (x : Operand) (ty : TypeId) (ps : String) (af : Array Edge) (gd : Option (Nat × Bool)) (P : Program) (W : World) : (execOp ρ ⟨d, .load 30 x, ty, ps, af, gd⟩).run P W = ldOut P 30 W (ρ x) := rfl
theorem store_M (W : World) (g : Nat) (x0 : Int) (x1 : Bool) (x2 x3 x4 x5 x6 x7 x8 : Int) (x9 x10 : Bool) (x11 x12 x13 x14 x15 x16 : Int) (A17 : Option Addr) (n17 c17 : Nat) (x18 : ByteArray) (h : X.rowAt W g 30 19 = true) : stOut Try.prog 30 W (.pointer (some ⟨g, 0, none⟩)) (.agg #[.int .i64 x0, .bool x1, .int .i64 x2, .int .i64 x3, .int .i64 x4, .int .i64 x5, .int .i64 x6, .int .i64 x7, .int .i64 x8, .bool x9, .bool x10, .int .i64 x11, .int .i64 x12, .int .i64 x13, .int .i64 x14, .int .i64 x15, .int .i64 x16, .slice A17 n17 c17, .string x18]) = .ok .skip (W.setRow g #[.int .i64 x0, .bool x1, .int .i64 x2, .int .i64 x3, .int .i64 x4, .int .i64 x5, .int .i64 x6, .int .i64 x7, .int .i64 x8, .bool x9, .bool x10, .int .i64 x11, .int .i64 x12, .int .i64 x13, .int .i64 x14, .int .i64 x15, .int .i64 x16, .slice A17 n17 c17, .string x18]) := stOut_any (by kernel_rfl) W g _ rfl (by simp [Value.oneCell']) h
theorem load_M (W : World) (a : Addr) (h : elOk W a 19 = true) : ldOut Try.prog 30 W (.pointer (some a)) = .ok (.value (.agg (elAt W a 19))) W := ldOut_el Try.underlying30 rfl (by kernel_rfl) W a h
end Go.Proofs.Ytclikkhkhoicfaa.H
