/- What each Go function that these laws use answers: as a Lean function, with the proof that the machine's call comes to it. Written by a program of this session (xprint.py). -/
import Derived.Test.YtclikkhkhoicfaaXx0
import Derived.Test.YtclikkhkhoicfaaXx9
import Derived.Test.YtclikkhkhoicfaaXx10
import Derived.Test.YtclikkhkhoicfaaXx12
import Derived.Test.YtclikkhkhoicfaaXx13
namespace Go.Proofs.Ytclikkhkhoicfaa.X
open Go.RowKit Go.Proofs.YtclikkhkhoicfaaW.PrintWords Go.Proofs.YtclikkhkhoicfaaW.PrintLast Go.Proofs.YtclikkhkhoicfaaW.PrintMore
attribute [local go_sem] max2_int min2_int max_two min_two max_three min_three max_four min_four   -- for this text's walks alone
set_option linter.unusedVariables false
set_option linter.unusedSimpArgs false

/-! ### clientmsg_Bytes: function 13 -/
def rowAt (W : World) (g : Nat) (t : TypeId) (n : Nat) : Bool := match W.heap[g]? with
  | some (.cells cs t' (0, 0)) => t' == t && cs.size == n
  | _ => false
theorem rowAt_of {W : World} {g : Nat} {t : TypeId} {n : Nat} {cs : Array Value} (h : W.heap[g]? = some (.cells cs t (0, 0))) (hn : cs.size = n) : rowAt W g t n = true := by simp [rowAt, h, hn]
theorem of_rowAt {W : World} {g : Nat} {t : TypeId} {n : Nat} (h : rowAt W g t n = true) : ∃ cs, W.heap[g]? = some (.cells cs t (0, 0)) ∧ cs.size = n := by
  unfold rowAt at h
  split at h
  · rename_i cs t' he
    simp only [Bool.and_eq_true, beq_iff_eq] at h
    exact ⟨cs, by rw [he, h.1], h.2⟩
  · cases h
def cellsAt (W : World) (g : Nat) : Array Value := match W.heap[g]? with
  | some (.cells cs _ _) => cs
  | _ => #[]
theorem cellsAt_of {W : World} {g : Nat} {t : TypeId} {fr : Nat × Nat} {cs : Array Value} (h : W.heap[g]? = some (.cells cs t fr)) : cellsAt W g = cs := by simp [cellsAt, h]
theorem store_any {P : Program} {ty : TypeId} {n : Nat} (hi : (P.info? ty).map (·.size) = some n) (W : World) (g : Nat) (cs : Array Value) (hcs : cs.size = n) (h1 : cs.all (·.oneCell') = true) (h : rowAt W g ty n = true) : (storeVar ty ⟨g, 0, none⟩ (.agg cs)).run P W = .ok () (W.setRow g cs) := by
  obtain ⟨old, h2, h3⟩ := of_rowAt h
  exact run_storeVar_row W g _ ty old cs h2 (by rw [hi, hcs]) (by rw [h3, hcs]) h1
theorem load_any {P : Program} {ty : TypeId} {n : Nat} {d : TypeDesc} (hu : P.underlying ty = some d) (hd : (match d with | .struct _ | .array _ _ => true | _ => false) = true) (hi : (P.info? ty).map (·.size) = some n) (W : World) (g : Nat) (h : rowAt W g ty n = true) : (loadVar ty ⟨g, 0, none⟩).run P W = .ok (.agg (cellsAt W g)) W := by
  obtain ⟨old, h2, h3⟩ := of_rowAt h
  rw [cellsAt_of h2]
  exact run_loadVar_row W g _ ty old (0, 0) d h2 hu hd (by rw [hi, h3])
/-- The store of a row, the load of a row, as wholes. -/
def stOut (P : Program) (t : TypeId) (W : World) (p v : Value) : Result Next := (do Instr.storeAt t p v; pure Next.skip : Sem Next).run P W
def ldOut (P : Program) (t : TypeId) (W : World) (p : Value) : Result Next := (do pure (Next.value (← Instr.loadAt t p)) : Sem Next).run P W
theorem stOut_any {P : Program} {ty : TypeId} {n : Nat} (hi : (P.info? ty).map (·.size) = some n) (W : World) (g : Nat) (cs : Array Value) (hcs : cs.size = n) (h1 : cs.all (·.oneCell') = true) (h : rowAt W g ty n = true) : stOut P ty W (.pointer (some ⟨g, 0, none⟩)) (.agg cs) = .ok .skip (W.setRow g cs) := by
  unfold stOut
  simp only [Instr.storeAt, Instr.sureAddr, Sem.run_bind, Sem.run_pure, Result.andThen_ok, store_any hi W g cs hcs h1 h]
theorem ldOut_any {P : Program} {ty : TypeId} {n : Nat} {d : TypeDesc} (hu : P.underlying ty = some d) (hd : (match d with | .struct _ | .array _ _ => true | _ => false) = true) (hi : (P.info? ty).map (·.size) = some n) (W : World) (g : Nat) (h : rowAt W g ty n = true) : ldOut P ty W (.pointer (some ⟨g, 0, none⟩)) = .ok (.value (.agg (cellsAt W g))) W := by
  unfold ldOut
  simp only [Instr.loadAt, Instr.sureAddr, Sem.run_bind, Sem.run_pure, Result.andThen_ok, load_any hu hd hi W g h]
/-- A row of numbers that was just made. -/
theorem fresh_row {W : World} {b : Nat} {row : Option Nat} (xs : List Int) (hx0 : 0 < xs.length) (hb : b < W.heap.size) (hr : ∀ k, row = some k → k < W.heap.size) (cs : Array Value) (hc : cs.toList = xs.map (Value.int .i64)) : ∀ W', Kept (W.alloc (.cells cs 3)) W' (fun k => k = b ∨ row = some k) → ∀ i, i < xs.length → ∃ ad, some (⟨W.heap.size, 0, none⟩ : Addr) = some ad ∧ W'.cell? (ad.add i) = some (.int .i64 (xs.getD i 0)) := by
  intro W' hk i hi
  refine ⟨_, rfl, ?_⟩
  have h1 : W'.heap[W.heap.size]? = some (.cells cs 3 (0, 0)) := (hk.2 W.heap.size (by simp) (fun h => h.elim (fun e => by omega) (fun e => by have := hr _ e; omega))).trans (heap_alloc_new W _)
  have h2 : (⟨W.heap.size, 0, none⟩ : Addr).add i = ⟨W.heap.size, i, none⟩ := by unfold Addr.add; split <;> simp_all
  have h3 : cs[i]? = some (.int .i64 (xs.getD i 0)) := by
    rw [← Array.getElem?_toList, hc, List.getElem?_map, List.getElem?_eq_getElem hi]; simp [hi]
  rw [h2, World.cell?, h1]
  simpa using h3
theorem below_row {B : Nat} {W W1 : World} (h : Below B W W1) {g : Nat} (h3 : B ≤ g) (cs : Array Value) : Below B W (W1.setRow g cs) :=
  ⟨h.os, h.tape, h.output, by simpa [World.setRow] using h.size, fun k hk => (setRow_other W1 g k cs (by omega)).trans (h.block k hk)⟩
theorem exec_store_rect (ρ : Operand → Value) (d : Option Tmp) (x y : Operand) (ty : TypeId) (ps : String) (af : Array Edge) (gd : Option (Nat × Bool)) (P : Program) (W : World) : (execOp ρ ⟨d, .store 25 x y, ty, ps, af, gd⟩).run P W = stOut P 25 W (ρ x) (ρ y) := rfl
theorem exec_load_rect (ρ : Operand → Value) (d : Option Tmp) (x : Operand) (ty : TypeId) (ps : String) (af : Array Edge) (gd : Option (Nat × Bool)) (P : Program) (W : World) : (execOp ρ ⟨d, .load 25 x, ty, ps, af, gd⟩).run P W = ldOut P 25 W (ρ x) := rfl
theorem store_rect (W : World) (g : Nat) (x0 : Int) (x1 : Int) (x2 : Int) (x3 : Int) (h : rowAt W g 25 4 = true) : stOut Try.prog 25 W (.pointer (some ⟨g, 0, none⟩)) (.agg #[.int .i64 x0, .int .i64 x1, .int .i64 x2, .int .i64 x3]) = .ok .skip (W.setRow g #[.int .i64 x0, .int .i64 x1, .int .i64 x2, .int .i64 x3]) := stOut_any (by kernel_rfl) W g _ rfl (by simp [Value.oneCell']) h
theorem load_rect (W : World) (g : Nat) (h : rowAt W g 25 4 = true) : ldOut Try.prog 25 W (.pointer (some ⟨g, 0, none⟩)) = .ok (.value (.agg (cellsAt W g))) W := ldOut_any Try.underlying25 rfl (by kernel_rfl) W g h
attribute [local go_sem ↓] exec_store_rect
attribute [local go_sem] store_rect
theorem rowAt_rect (W : World) (cs : Array Value) (h : cs.size = 4) : rowAt (W.alloc (.cells cs 25)) W.heap.size 25 4 = true := rowAt_of (heap_alloc_new W _) h
attribute [local go_sem] rowAt_rect
theorem clientmsg_Bytes_low {B B' : Nat} {W W' : World} (h : Below B W W') (hl : B' ≤ B) : Below B' W W' := ⟨h.os, h.tape, h.output, h.size, fun k hk => h.block k (by omega)⟩
theorem clientmsg_Bytes_row {W W1 : World} {g b : Nat} {row row1 : Option Nat} {o : Obj} (h : W.heap[g]? = some o) (hk : Kept W W1 (fun k => k = b ∨ row = some k)) (hb : g ≠ b) (hq : ∀ q, row = some q → g < q) : W1.heap[g]? = some o := (hk.2 g (blk_lt h) (fun e => e.elim hb (fun e => by have := hq _ e; omega))).trans h
theorem clientmsg_Bytes_q {W : World} {g : Nat} {row row1 : Option Nat} (hq : ∀ q, row = some q → g < q) (hs : g < W.heap.size) (h : row1 = row ∨ ∃ k, row1 = some k ∧ W.heap.size ≤ k) : ∀ q, row1 = some q → g < q := fun q e => by
  rcases h with h | ⟨k, h, hk⟩
  · exact hq q (h.symm.trans e)
  · rw [h] at e; injection e with e; omega
/-- Numbers with signs. -/
def wSs : List Int → List UInt8 × Bool → Option (List UInt8 × Bool)
  | [], st => some st
  | n :: l, st => (wS st n).bind fun st' => wSs l st'
/-- What was written, if nothing is wrong. -/
def endB (st : List UInt8 × Bool) : ByteArray × Int := if st.2 = true then (⟨#[]⟩, 1) else (⟨st.1.toArray⟩, 0)
def clientmsg_Bytes.f (a0_0 : Int) (a0_1 : Bool) (a0_2 : Int) (a0_3 : Int) (a0_4 : Int) (a0_5 : Int) (a0_6 : Int) (a0_7 : Int) (a0_8 : Int) (a0_9 : Bool) (a0_10 : Bool) (a0_11 : Int) (a0_12 : Int) (a0_13 : Int) (a0_14 : Int) (a0_15 : Int) (a0_16 : Int) (l0_17 : List Int) (a0_18 : ByteArray) : Option (ByteArray × Int) :=
  if a0_0 = 0 then (format_Valid.f a0_7 a0_8 a0_9 a0_10 a0_11 a0_12 a0_13 a0_14 a0_15 a0_16).bind fun v => if v = true then (wInts 4 [0] ([], false)).bind fun st => (format_Bytes.f a0_7 a0_8 a0_9 a0_10 a0_11 a0_12 a0_13 a0_14 a0_15 a0_16).bind fun s => if st.1.length + s.size ≤ 140737488351232 then some (endB (st.1 ++ s.data.toList, st.2)) else none else some (⟨#[]⟩, 130)
  else if a0_0 = 1 then if l0_17.length ≤ 1000000000000 then (wInts 1 [2, 0] ([], decide (256 < l0_17.length))).bind fun st => (wInts 2 [(l0_17.length : Int)] st).bind fun st2 => (wSs l0_17 st2).bind fun st3 => some (endB st3) else none
  else if a0_0 = 2 then (clientmsg_bit.f a0_1).bind fun b => (wInts 1 [3, b] ([], false)).bind fun st => (wInts 2 [a0_3, a0_4, a0_5, a0_6] st).bind fun st2 => some (endB st2)
  else if a0_0 = 3 then (clientmsg_bit.f a0_1).bind fun b => (wInts 1 [4, b, 0, 0] ([], false)).bind fun st => (wInts 4 [a0_2] st).bind fun st2 => some (endB st2)
  else if a0_0 = 4 then (wInts 1 [5, a0_2] ([], false)).bind fun st => (wInts 2 [a0_3, a0_4] st).bind fun st2 => some (endB st2)
  else if a0_0 = 5 then if a0_18.size ≤ 140737488351232 then (wInts 1 [6, 0, 0, 0] ([], decide (4096 < a0_18.size))).bind fun st => (wInts 4 [(a0_18.size : Int)] st).bind fun st2 => if st2.1.length + a0_18.size ≤ 140737488351232 then some (endB (st2.1 ++ a0_18.data.toList, st2.2)) else none else none
  else some (⟨#[]⟩, 1)
set_option maxHeartbeats 8000000 in
set_option maxRecDepth 100000 in
theorem clientmsg_Bytes_request (a0_0 : Int) (a0_1 : Bool) (a0_2 : Int) (a0_3 : Int) (a0_4 : Int) (a0_5 : Int) (a0_6 : Int) (a0_7 : Int) (a0_8 : Int) (a0_9 : Bool) (a0_10 : Bool) (a0_11 : Int) (a0_12 : Int) (a0_13 : Int) (a0_14 : Int) (a0_15 : Int) (a0_16 : Int) (A0_17 : Option Addr) (c0_17 : Nat) (l0_17 : List Int) (a0_18 : ByteArray) (r1 : ByteArray) (r2 : Int) (w : World) (hk : a0_0 = 2) (b : Int) (st st2 : List UInt8 × Bool) (HBIT : Hid (clientmsg_bit.f a0_1 = some b)) (E1 : Hid (wInts 1 [3, b] ([], false) = some st)) (E2 : Hid (wInts 2 [a0_3, a0_4, a0_5, a0_6] st = some st2)) (HE0 : Hid (endB st2 = (r1, r2))) :
    Calls Try.prog 13 #[.agg #[.int .i64 a0_0, .bool a0_1, .int .i64 a0_2, .int .i64 a0_3, .int .i64 a0_4, .int .i64 a0_5, .int .i64 a0_6, .int .i64 a0_7, .int .i64 a0_8, .bool a0_9, .bool a0_10, .int .i64 a0_11, .int .i64 a0_12, .int .i64 a0_13, .int .i64 a0_14, .int .i64 a0_15, .int .i64 a0_16, .slice A0_17 l0_17.length c0_17, .string a0_18]] w fun e w' => e = .returned (.tuple #[.string r1, .int .i64 r2]) ∧ Below w.heap.size w w' := by
  obtain ⟨W0, hW0⟩ : ∃ W0, ((((w.alloc (.cells #[.int .i64 a0_0, .bool a0_1, .int .i64 a0_2, .int .i64 a0_3, .int .i64 a0_4, .int .i64 a0_5, .int .i64 a0_6, .int .i64 a0_7, .int .i64 a0_8, .bool a0_9, .bool a0_10, .int .i64 a0_11, .int .i64 a0_12, .int .i64 a0_13, .int .i64 a0_14, .int .i64 a0_15, .int .i64 a0_16, .slice A0_17 l0_17.length c0_17, .string a0_18] 30)).alloc (.cells #[.pointer none, .slice none 0 0, .bool false] 67)).alloc (.cells #[.int .i64 0, .int .i64 0, .int .i64 0, .int .i64 0] 25)).setRow (w.heap.size + 1 + 1) #[.int .i64 a0_3, .int .i64 a0_4, .int .i64 a0_5, .int .i64 a0_6]) = W0 := ⟨_, rfl⟩
  have hst : rowAt (((w.alloc (.cells #[.int .i64 a0_0, .bool a0_1, .int .i64 a0_2, .int .i64 a0_3, .int .i64 a0_4, .int .i64 a0_5, .int .i64 a0_6, .int .i64 a0_7, .int .i64 a0_8, .bool a0_9, .bool a0_10, .int .i64 a0_11, .int .i64 a0_12, .int .i64 a0_13, .int .i64 a0_14, .int .i64 a0_15, .int .i64 a0_16, .slice A0_17 l0_17.length c0_17, .string a0_18] 30)).alloc (.cells #[.pointer none, .slice none 0 0, .bool false] 67)).alloc (.cells #[.int .i64 0, .int .i64 0, .int .i64 0, .int .i64 0] 25)) (w.heap.size + 1 + 1) 25 4 = true := by have := rowAt_rect ((w.alloc (.cells #[.int .i64 a0_0, .bool a0_1, .int .i64 a0_2, .int .i64 a0_3, .int .i64 a0_4, .int .i64 a0_5, .int .i64 a0_6, .int .i64 a0_7, .int .i64 a0_8, .bool a0_9, .bool a0_10, .int .i64 a0_11, .int .i64 a0_12, .int .i64 a0_13, .int .i64 a0_14, .int .i64 a0_15, .int .i64 a0_16, .slice A0_17 l0_17.length c0_17, .string a0_18] 30)).alloc (.cells #[.pointer none, .slice none 0 0, .bool false] 67)) #[.int .i64 0, .int .i64 0, .int .i64 0, .int .i64 0] rfl; rwa [World.size_alloc, World.size_alloc] at this
  have hr0 : ((w.alloc (.cells #[.int .i64 a0_0, .bool a0_1, .int .i64 a0_2, .int .i64 a0_3, .int .i64 a0_4, .int .i64 a0_5, .int .i64 a0_6, .int .i64 a0_7, .int .i64 a0_8, .bool a0_9, .bool a0_10, .int .i64 a0_11, .int .i64 a0_12, .int .i64 a0_13, .int .i64 a0_14, .int .i64 a0_15, .int .i64 a0_16, .slice A0_17 l0_17.length c0_17, .string a0_18] 30)).alloc (.cells #[.pointer none, .slice none 0 0, .bool false] 67)).heap.size = w.heap.size + 2 := by simp
  have hq0 := setRow_heap (((w.alloc (.cells #[.int .i64 a0_0, .bool a0_1, .int .i64 a0_2, .int .i64 a0_3, .int .i64 a0_4, .int .i64 a0_5, .int .i64 a0_6, .int .i64 a0_7, .int .i64 a0_8, .bool a0_9, .bool a0_10, .int .i64 a0_11, .int .i64 a0_12, .int .i64 a0_13, .int .i64 a0_14, .int .i64 a0_15, .int .i64 a0_16, .slice A0_17 l0_17.length c0_17, .string a0_18] 30)).alloc (.cells #[.pointer none, .slice none 0 0, .bool false] 67)).alloc (.cells #[.int .i64 0, .int .i64 0, .int .i64 0, .int .i64 0] 25)) (w.heap.size + 2) #[.int .i64 0, .int .i64 0, .int .i64 0, .int .i64 0] #[.int .i64 a0_3, .int .i64 a0_4, .int .i64 a0_5, .int .i64 a0_6] 25 (0, 0) (by have := heap_alloc_new ((w.alloc (.cells #[.int .i64 a0_0, .bool a0_1, .int .i64 a0_2, .int .i64 a0_3, .int .i64 a0_4, .int .i64 a0_5, .int .i64 a0_6, .int .i64 a0_7, .int .i64 a0_8, .bool a0_9, .bool a0_10, .int .i64 a0_11, .int .i64 a0_12, .int .i64 a0_13, .int .i64 a0_14, .int .i64 a0_15, .int .i64 a0_16, .slice A0_17 l0_17.length c0_17, .string a0_18] 30)).alloc (.cells #[.pointer none, .slice none 0 0, .bool false] 67)) (.cells #[.int .i64 0, .int .i64 0, .int .i64 0, .int .i64 0] 25); rw [hr0] at this; exact this)
  have HR0 := Lib.hid (show W0.heap[w.heap.size + 2]? = some (.cells #[.int .i64 a0_3, .int .i64 a0_4, .int .i64 a0_5, .int .i64 a0_6] 25 (0, 0)) from by rw [← hW0]; exact hq0)
  have HX0 := Lib.hid (show W0.heap[w.heap.size]? = some (.cells #[.int .i64 a0_0, .bool a0_1, .int .i64 a0_2, .int .i64 a0_3, .int .i64 a0_4, .int .i64 a0_5, .int .i64 a0_6, .int .i64 a0_7, .int .i64 a0_8, .bool a0_9, .bool a0_10, .int .i64 a0_11, .int .i64 a0_12, .int .i64 a0_13, .int .i64 a0_14, .int .i64 a0_15, .int .i64 a0_16, .slice A0_17 l0_17.length c0_17, .string a0_18] 30 (0, 0)) from by rw [← hW0]; exact (setRow_other _ _ _ _ (by omega)).trans ((Below.heap_alloc _ _ _ (by simp <;> omega)).trans ((Below.heap_alloc _ _ _ (by simp)).trans (heap_alloc_new w _))))
  have HW0 := Lib.hid (show Wr (w.heap.size + 1) (w.heap.size + 1) [] false none W0 from Wr.new (by rw [← hW0]; have h0 := heap_alloc_new (w.alloc (.cells #[.int .i64 a0_0, .bool a0_1, .int .i64 a0_2, .int .i64 a0_3, .int .i64 a0_4, .int .i64 a0_5, .int .i64 a0_6, .int .i64 a0_7, .int .i64 a0_8, .bool a0_9, .bool a0_10, .int .i64 a0_11, .int .i64 a0_12, .int .i64 a0_13, .int .i64 a0_14, .int .i64 a0_15, .int .i64 a0_16, .slice A0_17 l0_17.length c0_17, .string a0_18] 30)) (.cells #[.pointer none, .slice none 0 0, .bool false] 67); rw [World.size_alloc] at h0; exact (setRow_other _ _ _ _ (by omega)).trans ((Below.heap_alloc _ _ _ (by simp)).trans h0)) (Nat.le_refl _))
  have HBW := Lib.hid (show Below w.heap.size w W0 from by rw [← hW0]; exact below_row (below_alloc (below_alloc (below_alloc (Below.refl _ _) _) _) _) (by omega) _)
  have HB0 := Lib.hid (show Below (w.heap.size + 1) W0 W0 from Below.refl _ _)
  have HL0 := Lib.hid (show (w.heap.size + 1) ≤ W0.heap.size from by have := blk_lt HR0.out; omega)
  have HQ0 := Lib.hid (show ∀ q, (none : Option Nat) = some q → w.heap.size + 2 < q from fun q h => by cases h)
  have HZ0 := Lib.hid hW0
  clear hr0 hq0 hW0
  have k0 : (a0_0 == 0) = false := by rw [hk]; rfl
  have k1 : (a0_0 == 1) = false := by rw [hk]; rfl
  have k2 : (a0_0 == 2) = true := by simpa using hk
  clear hk
  have y0 : W0.cell? ⟨w.heap.size, 0, none⟩ = some (.int .i64 a0_0) := by rw [World.cell?, HX0.out]; rfl
  have y1 : W0.cell? ⟨w.heap.size, 1, none⟩ = some (.bool a0_1) := by rw [World.cell?, HX0.out]; rfl
  have z0 : W0.cell? ⟨w.heap.size + 2, 0, none⟩ = some (.int .i64 a0_3) := by rw [World.cell?, HR0.out]; rfl
  have z1 : W0.cell? ⟨w.heap.size + 2, 1, none⟩ = some (.int .i64 a0_4) := by rw [World.cell?, HR0.out]; rfl
  have z2 : W0.cell? ⟨w.heap.size + 2, 2, none⟩ = some (.int .i64 a0_5) := by rw [World.cell?, HR0.out]; rfl
  have z3 : W0.cell? ⟨w.heap.size + 2, 3, none⟩ = some (.int .i64 a0_6) := by rw [World.cell?, HR0.out]; rfl
  have c2 := HW0.out.cell
  have f2 := HW0.out.frozen
  go_enter Try.func13, Try.ntmps13
  go_upto_region 3 with (fail)
  rw [HZ0.out]
  clear HZ0 hst
  go_wp2_with fail
  refine (clientmsg_bit.calls a0_1 b W0 HBIT.out).mono ?_
  rintro en W1 ⟨rfl, hd⟩
  have hb := hd.below
  clear hd
  have HW1 := Lib.hid (HW0.out.below hb)
  have HB1 := Lib.hid (HB0.out.trans (hb.mono HL0.out))
  have HL1 := Lib.hid (Nat.le_trans HL0.out HB1.out.size)
  have HX1 := Lib.hid ((HB1.out.block w.heap.size (by omega)).trans HX0.out)
  have HR1 := Lib.hid (blk_below HR0.out hb)
  have HQ1 := Lib.hid HQ0.out
  clear hb
  clear c2 f2 y0 y1 z0 z1 z2 z3
  have y0 : W1.cell? ⟨w.heap.size, 0, none⟩ = some (.int .i64 a0_0) := by rw [World.cell?, HX1.out]; rfl
  have y1 : W1.cell? ⟨w.heap.size, 1, none⟩ = some (.bool a0_1) := by rw [World.cell?, HX1.out]; rfl
  have z0 : W1.cell? ⟨w.heap.size + 2, 0, none⟩ = some (.int .i64 a0_3) := by rw [World.cell?, HR1.out]; rfl
  have z1 : W1.cell? ⟨w.heap.size + 2, 1, none⟩ = some (.int .i64 a0_4) := by rw [World.cell?, HR1.out]; rfl
  have z2 : W1.cell? ⟨w.heap.size + 2, 2, none⟩ = some (.int .i64 a0_5) := by rw [World.cell?, HR1.out]; rfl
  have z3 : W1.cell? ⟨w.heap.size + 2, 3, none⟩ = some (.int .i64 a0_6) := by rw [World.cell?, HR1.out]; rfl
  have c2 := HW1.out.cell
  have f2 := HW1.out.frozen
  go_wp2_with fail
  refine (ints_c (w.heap.size + 1) (w.heap.size + 1) [] false none 1 (some ⟨W1.heap.size, 0, none⟩) 2 [3, b] st _ (HW1.out.below (below_alloc (Below.refl _ _) _)) (by have := HL1.out; simp; omega) (by simp) (fresh_row [3, b] (by simp) HW1.out.lt (fun k hk => (HW1.out.row_ k hk).2) _ rfl) E1.out).mono ?_
  rintro en W2 ⟨rfl, row2, h1, h2, h3, h4⟩
  have HW2 := Lib.hid h1
  have HB2 := Lib.hid (HB1.out.trans ((below_alloc (Below.refl W1.heap.size W1) _).mono HL1.out |>.trans h3))
  have HL2 := Lib.hid (Nat.le_trans HL0.out HB2.out.size)
  have HX2 := Lib.hid ((HB2.out.block w.heap.size (by omega)).trans HX0.out)
  have HR2 := Lib.hid (clientmsg_Bytes_row (row1 := none) (blk_alloc HR1.out _) h4 (by omega) HQ1.out)
  have HQ2 := Lib.hid (clientmsg_Bytes_q (g := w.heap.size + 2) HQ1.out (by have := blk_lt HR1.out; simp; omega) h2)
  clear h1 h2 h3 h4
  clear c2 f2 y0 y1 z0 z1 z2 z3
  have y0 : W2.cell? ⟨w.heap.size, 0, none⟩ = some (.int .i64 a0_0) := by rw [World.cell?, HX2.out]; rfl
  have y1 : W2.cell? ⟨w.heap.size, 1, none⟩ = some (.bool a0_1) := by rw [World.cell?, HX2.out]; rfl
  have z0 : W2.cell? ⟨w.heap.size + 2, 0, none⟩ = some (.int .i64 a0_3) := by rw [World.cell?, HR2.out]; rfl
  have z1 : W2.cell? ⟨w.heap.size + 2, 1, none⟩ = some (.int .i64 a0_4) := by rw [World.cell?, HR2.out]; rfl
  have z2 : W2.cell? ⟨w.heap.size + 2, 2, none⟩ = some (.int .i64 a0_5) := by rw [World.cell?, HR2.out]; rfl
  have z3 : W2.cell? ⟨w.heap.size + 2, 3, none⟩ = some (.int .i64 a0_6) := by rw [World.cell?, HR2.out]; rfl
  have c2 := HW2.out.cell
  have f2 := HW2.out.frozen
  go_wp2_with fail
  refine (ints_c (w.heap.size + 1) (w.heap.size + 1) st.1 st.2 row2 2 (some ⟨W2.heap.size, 0, none⟩) 4 [a0_3, a0_4, a0_5, a0_6] st2 _ (HW2.out.below (below_alloc (Below.refl _ _) _)) (by have := HL2.out; simp; omega) (by simp) (fresh_row [a0_3, a0_4, a0_5, a0_6] (by simp) HW2.out.lt (fun k hk => (HW2.out.row_ k hk).2) _ rfl) E2.out).mono ?_
  rintro en W3 ⟨rfl, row3, h1, h2, h3, h4⟩
  have HW3 := Lib.hid h1
  have HB3 := Lib.hid (HB2.out.trans ((below_alloc (Below.refl W2.heap.size W2) _).mono HL2.out |>.trans h3))
  have HL3 := Lib.hid (Nat.le_trans HL0.out HB3.out.size)
  have HX3 := Lib.hid ((HB3.out.block w.heap.size (by omega)).trans HX0.out)
  have HR3 := Lib.hid (clientmsg_Bytes_row (row1 := none) (blk_alloc HR2.out _) h4 (by omega) HQ2.out)
  have HQ3 := Lib.hid (clientmsg_Bytes_q (g := w.heap.size + 2) HQ2.out (by have := blk_lt HR2.out; simp; omega) h2)
  clear h1 h2 h3 h4
  clear c2 f2 y0 y1 z0 z1 z2 z3
  have y0 : W3.cell? ⟨w.heap.size, 0, none⟩ = some (.int .i64 a0_0) := by rw [World.cell?, HX3.out]; rfl
  have y1 : W3.cell? ⟨w.heap.size, 1, none⟩ = some (.bool a0_1) := by rw [World.cell?, HX3.out]; rfl
  have z0 : W3.cell? ⟨w.heap.size + 2, 0, none⟩ = some (.int .i64 a0_3) := by rw [World.cell?, HR3.out]; rfl
  have z1 : W3.cell? ⟨w.heap.size + 2, 1, none⟩ = some (.int .i64 a0_4) := by rw [World.cell?, HR3.out]; rfl
  have z2 : W3.cell? ⟨w.heap.size + 2, 2, none⟩ = some (.int .i64 a0_5) := by rw [World.cell?, HR3.out]; rfl
  have z3 : W3.cell? ⟨w.heap.size + 2, 3, none⟩ = some (.int .i64 a0_6) := by rw [World.cell?, HR3.out]; rfl
  have c2 := HW3.out.cell
  have f2 := HW3.out.frozen
  obtain ⟨er, her⟩ : ∃ er, st2.2 = er := ⟨_, rfl⟩
  have HE := Lib.hid (show endB (st2.1, er) = (r1, r2) from by rw [← her]; exact HE0.out)
  have HWe := Lib.hid (show Wr (w.heap.size + 1) (w.heap.size + 1) st2.1 er row3 W3 from by rw [← her]; exact HW3.out)
  rw [her] at c2
  clear her
  cases er with
  | true =>
    obtain ⟨rfl, rfl⟩ : (⟨#[]⟩ : ByteArray) = r1 ∧ (1 : Int) = r2 := Prod.mk.inj ((if_pos rfl).symm.trans HE.out)
    go_wp2_with fail
    go_ret2
    exact ⟨rfl, clientmsg_Bytes_low (HBW.out.trans (clientmsg_Bytes_low HB3.out (Nat.le_succ _))) (Nat.le_refl _)⟩
  | false =>
    obtain ⟨rfl, rfl⟩ : (⟨(st2.1).toArray⟩ : ByteArray) = r1 ∧ (0 : Int) = r2 := Prod.mk.inj ((if_neg (show ¬ (false = true) by decide)).symm.trans HE.out)
    go_wp2_with fail
    obtain ⟨cs, hbat, _, _⟩ := HWe.out
    refine (BL.String_c _ (w.heap.size + 1) (w.heap.size + 1) 0 cs row3 _ W3 hbat HL3.out).mono ?_
    rintro en Wz ⟨rfl, h3⟩
    have HBz := Lib.hid (HBW.out.trans (clientmsg_Bytes_low (HB3.out.trans h3) (Nat.le_succ _)))
    clear h3 hbat
    go_wp2_with fail
    go_ret2
    exact ⟨rfl, HBz.out⟩
set_option maxHeartbeats 8000000 in
set_option maxRecDepth 100000 in
theorem clientmsg_Bytes_key (a0_0 : Int) (a0_1 : Bool) (a0_2 : Int) (a0_3 : Int) (a0_4 : Int) (a0_5 : Int) (a0_6 : Int) (a0_7 : Int) (a0_8 : Int) (a0_9 : Bool) (a0_10 : Bool) (a0_11 : Int) (a0_12 : Int) (a0_13 : Int) (a0_14 : Int) (a0_15 : Int) (a0_16 : Int) (A0_17 : Option Addr) (c0_17 : Nat) (l0_17 : List Int) (a0_18 : ByteArray) (r1 : ByteArray) (r2 : Int) (w : World) (hk : a0_0 = 3) (b : Int) (st st2 : List UInt8 × Bool) (HBIT : Hid (clientmsg_bit.f a0_1 = some b)) (E1 : Hid (wInts 1 [4, b, 0, 0] ([], false) = some st)) (E2 : Hid (wInts 4 [a0_2] st = some st2)) (HE0 : Hid (endB st2 = (r1, r2))) :
    Calls Try.prog 13 #[.agg #[.int .i64 a0_0, .bool a0_1, .int .i64 a0_2, .int .i64 a0_3, .int .i64 a0_4, .int .i64 a0_5, .int .i64 a0_6, .int .i64 a0_7, .int .i64 a0_8, .bool a0_9, .bool a0_10, .int .i64 a0_11, .int .i64 a0_12, .int .i64 a0_13, .int .i64 a0_14, .int .i64 a0_15, .int .i64 a0_16, .slice A0_17 l0_17.length c0_17, .string a0_18]] w fun e w' => e = .returned (.tuple #[.string r1, .int .i64 r2]) ∧ Below w.heap.size w w' := by
  obtain ⟨W0, hW0⟩ : ∃ W0, ((((w.alloc (.cells #[.int .i64 a0_0, .bool a0_1, .int .i64 a0_2, .int .i64 a0_3, .int .i64 a0_4, .int .i64 a0_5, .int .i64 a0_6, .int .i64 a0_7, .int .i64 a0_8, .bool a0_9, .bool a0_10, .int .i64 a0_11, .int .i64 a0_12, .int .i64 a0_13, .int .i64 a0_14, .int .i64 a0_15, .int .i64 a0_16, .slice A0_17 l0_17.length c0_17, .string a0_18] 30)).alloc (.cells #[.pointer none, .slice none 0 0, .bool false] 67)).alloc (.cells #[.int .i64 0, .int .i64 0, .int .i64 0, .int .i64 0] 25)).setRow (w.heap.size + 1 + 1) #[.int .i64 a0_3, .int .i64 a0_4, .int .i64 a0_5, .int .i64 a0_6]) = W0 := ⟨_, rfl⟩
  have hst : rowAt (((w.alloc (.cells #[.int .i64 a0_0, .bool a0_1, .int .i64 a0_2, .int .i64 a0_3, .int .i64 a0_4, .int .i64 a0_5, .int .i64 a0_6, .int .i64 a0_7, .int .i64 a0_8, .bool a0_9, .bool a0_10, .int .i64 a0_11, .int .i64 a0_12, .int .i64 a0_13, .int .i64 a0_14, .int .i64 a0_15, .int .i64 a0_16, .slice A0_17 l0_17.length c0_17, .string a0_18] 30)).alloc (.cells #[.pointer none, .slice none 0 0, .bool false] 67)).alloc (.cells #[.int .i64 0, .int .i64 0, .int .i64 0, .int .i64 0] 25)) (w.heap.size + 1 + 1) 25 4 = true := by have := rowAt_rect ((w.alloc (.cells #[.int .i64 a0_0, .bool a0_1, .int .i64 a0_2, .int .i64 a0_3, .int .i64 a0_4, .int .i64 a0_5, .int .i64 a0_6, .int .i64 a0_7, .int .i64 a0_8, .bool a0_9, .bool a0_10, .int .i64 a0_11, .int .i64 a0_12, .int .i64 a0_13, .int .i64 a0_14, .int .i64 a0_15, .int .i64 a0_16, .slice A0_17 l0_17.length c0_17, .string a0_18] 30)).alloc (.cells #[.pointer none, .slice none 0 0, .bool false] 67)) #[.int .i64 0, .int .i64 0, .int .i64 0, .int .i64 0] rfl; rwa [World.size_alloc, World.size_alloc] at this
  have hr0 : ((w.alloc (.cells #[.int .i64 a0_0, .bool a0_1, .int .i64 a0_2, .int .i64 a0_3, .int .i64 a0_4, .int .i64 a0_5, .int .i64 a0_6, .int .i64 a0_7, .int .i64 a0_8, .bool a0_9, .bool a0_10, .int .i64 a0_11, .int .i64 a0_12, .int .i64 a0_13, .int .i64 a0_14, .int .i64 a0_15, .int .i64 a0_16, .slice A0_17 l0_17.length c0_17, .string a0_18] 30)).alloc (.cells #[.pointer none, .slice none 0 0, .bool false] 67)).heap.size = w.heap.size + 2 := by simp
  have hq0 := setRow_heap (((w.alloc (.cells #[.int .i64 a0_0, .bool a0_1, .int .i64 a0_2, .int .i64 a0_3, .int .i64 a0_4, .int .i64 a0_5, .int .i64 a0_6, .int .i64 a0_7, .int .i64 a0_8, .bool a0_9, .bool a0_10, .int .i64 a0_11, .int .i64 a0_12, .int .i64 a0_13, .int .i64 a0_14, .int .i64 a0_15, .int .i64 a0_16, .slice A0_17 l0_17.length c0_17, .string a0_18] 30)).alloc (.cells #[.pointer none, .slice none 0 0, .bool false] 67)).alloc (.cells #[.int .i64 0, .int .i64 0, .int .i64 0, .int .i64 0] 25)) (w.heap.size + 2) #[.int .i64 0, .int .i64 0, .int .i64 0, .int .i64 0] #[.int .i64 a0_3, .int .i64 a0_4, .int .i64 a0_5, .int .i64 a0_6] 25 (0, 0) (by have := heap_alloc_new ((w.alloc (.cells #[.int .i64 a0_0, .bool a0_1, .int .i64 a0_2, .int .i64 a0_3, .int .i64 a0_4, .int .i64 a0_5, .int .i64 a0_6, .int .i64 a0_7, .int .i64 a0_8, .bool a0_9, .bool a0_10, .int .i64 a0_11, .int .i64 a0_12, .int .i64 a0_13, .int .i64 a0_14, .int .i64 a0_15, .int .i64 a0_16, .slice A0_17 l0_17.length c0_17, .string a0_18] 30)).alloc (.cells #[.pointer none, .slice none 0 0, .bool false] 67)) (.cells #[.int .i64 0, .int .i64 0, .int .i64 0, .int .i64 0] 25); rw [hr0] at this; exact this)
  have HR0 := Lib.hid (show W0.heap[w.heap.size + 2]? = some (.cells #[.int .i64 a0_3, .int .i64 a0_4, .int .i64 a0_5, .int .i64 a0_6] 25 (0, 0)) from by rw [← hW0]; exact hq0)
  have HX0 := Lib.hid (show W0.heap[w.heap.size]? = some (.cells #[.int .i64 a0_0, .bool a0_1, .int .i64 a0_2, .int .i64 a0_3, .int .i64 a0_4, .int .i64 a0_5, .int .i64 a0_6, .int .i64 a0_7, .int .i64 a0_8, .bool a0_9, .bool a0_10, .int .i64 a0_11, .int .i64 a0_12, .int .i64 a0_13, .int .i64 a0_14, .int .i64 a0_15, .int .i64 a0_16, .slice A0_17 l0_17.length c0_17, .string a0_18] 30 (0, 0)) from by rw [← hW0]; exact (setRow_other _ _ _ _ (by omega)).trans ((Below.heap_alloc _ _ _ (by simp <;> omega)).trans ((Below.heap_alloc _ _ _ (by simp)).trans (heap_alloc_new w _))))
  have HW0 := Lib.hid (show Wr (w.heap.size + 1) (w.heap.size + 1) [] false none W0 from Wr.new (by rw [← hW0]; have h0 := heap_alloc_new (w.alloc (.cells #[.int .i64 a0_0, .bool a0_1, .int .i64 a0_2, .int .i64 a0_3, .int .i64 a0_4, .int .i64 a0_5, .int .i64 a0_6, .int .i64 a0_7, .int .i64 a0_8, .bool a0_9, .bool a0_10, .int .i64 a0_11, .int .i64 a0_12, .int .i64 a0_13, .int .i64 a0_14, .int .i64 a0_15, .int .i64 a0_16, .slice A0_17 l0_17.length c0_17, .string a0_18] 30)) (.cells #[.pointer none, .slice none 0 0, .bool false] 67); rw [World.size_alloc] at h0; exact (setRow_other _ _ _ _ (by omega)).trans ((Below.heap_alloc _ _ _ (by simp)).trans h0)) (Nat.le_refl _))
  have HBW := Lib.hid (show Below w.heap.size w W0 from by rw [← hW0]; exact below_row (below_alloc (below_alloc (below_alloc (Below.refl _ _) _) _) _) (by omega) _)
  have HB0 := Lib.hid (show Below (w.heap.size + 1) W0 W0 from Below.refl _ _)
  have HL0 := Lib.hid (show (w.heap.size + 1) ≤ W0.heap.size from by have := blk_lt HR0.out; omega)
  have HQ0 := Lib.hid (show ∀ q, (none : Option Nat) = some q → w.heap.size + 2 < q from fun q h => by cases h)
  have HZ0 := Lib.hid hW0
  clear hr0 hq0 hW0
  have k0 : (a0_0 == 0) = false := by rw [hk]; rfl
  have k1 : (a0_0 == 1) = false := by rw [hk]; rfl
  have k2 : (a0_0 == 2) = false := by rw [hk]; rfl
  have k3 : (a0_0 == 3) = true := by simpa using hk
  clear hk
  have y0 : W0.cell? ⟨w.heap.size, 0, none⟩ = some (.int .i64 a0_0) := by rw [World.cell?, HX0.out]; rfl
  have y1 : W0.cell? ⟨w.heap.size, 1, none⟩ = some (.bool a0_1) := by rw [World.cell?, HX0.out]; rfl
  have y2 : W0.cell? ⟨w.heap.size, 2, none⟩ = some (.int .i64 a0_2) := by rw [World.cell?, HX0.out]; rfl
  have c2 := HW0.out.cell
  have f2 := HW0.out.frozen
  go_enter Try.func13, Try.ntmps13
  go_upto_region 3 with (fail)
  rw [HZ0.out]
  clear HZ0 hst
  go_wp2_with fail
  refine (clientmsg_bit.calls a0_1 b W0 HBIT.out).mono ?_
  rintro en W1 ⟨rfl, hd⟩
  have hb := hd.below
  clear hd
  have HW1 := Lib.hid (HW0.out.below hb)
  have HB1 := Lib.hid (HB0.out.trans (hb.mono HL0.out))
  have HL1 := Lib.hid (Nat.le_trans HL0.out HB1.out.size)
  have HX1 := Lib.hid ((HB1.out.block w.heap.size (by omega)).trans HX0.out)
  have HR1 := Lib.hid (blk_below HR0.out hb)
  have HQ1 := Lib.hid HQ0.out
  clear hb
  clear c2 f2 y0 y1 y2
  have y0 : W1.cell? ⟨w.heap.size, 0, none⟩ = some (.int .i64 a0_0) := by rw [World.cell?, HX1.out]; rfl
  have y1 : W1.cell? ⟨w.heap.size, 1, none⟩ = some (.bool a0_1) := by rw [World.cell?, HX1.out]; rfl
  have y2 : W1.cell? ⟨w.heap.size, 2, none⟩ = some (.int .i64 a0_2) := by rw [World.cell?, HX1.out]; rfl
  have c2 := HW1.out.cell
  have f2 := HW1.out.frozen
  go_wp2_with fail
  refine (ints_c (w.heap.size + 1) (w.heap.size + 1) [] false none 1 (some ⟨W1.heap.size, 0, none⟩) 4 [4, b, 0, 0] st _ (HW1.out.below (below_alloc (Below.refl _ _) _)) (by have := HL1.out; simp; omega) (by simp) (fresh_row [4, b, 0, 0] (by simp) HW1.out.lt (fun k hk => (HW1.out.row_ k hk).2) _ rfl) E1.out).mono ?_
  rintro en W2 ⟨rfl, row2, h1, h2, h3, h4⟩
  have HW2 := Lib.hid h1
  have HB2 := Lib.hid (HB1.out.trans ((below_alloc (Below.refl W1.heap.size W1) _).mono HL1.out |>.trans h3))
  have HL2 := Lib.hid (Nat.le_trans HL0.out HB2.out.size)
  have HX2 := Lib.hid ((HB2.out.block w.heap.size (by omega)).trans HX0.out)
  have HR2 := Lib.hid (clientmsg_Bytes_row (row1 := none) (blk_alloc HR1.out _) h4 (by omega) HQ1.out)
  have HQ2 := Lib.hid (clientmsg_Bytes_q (g := w.heap.size + 2) HQ1.out (by have := blk_lt HR1.out; simp; omega) h2)
  clear h1 h2 h3 h4
  clear c2 f2 y0 y1 y2
  have y0 : W2.cell? ⟨w.heap.size, 0, none⟩ = some (.int .i64 a0_0) := by rw [World.cell?, HX2.out]; rfl
  have y1 : W2.cell? ⟨w.heap.size, 1, none⟩ = some (.bool a0_1) := by rw [World.cell?, HX2.out]; rfl
  have y2 : W2.cell? ⟨w.heap.size, 2, none⟩ = some (.int .i64 a0_2) := by rw [World.cell?, HX2.out]; rfl
  have c2 := HW2.out.cell
  have f2 := HW2.out.frozen
  go_wp2_with fail
  refine (ints_c (w.heap.size + 1) (w.heap.size + 1) st.1 st.2 row2 4 (some ⟨W2.heap.size, 0, none⟩) 1 [a0_2] st2 _ (HW2.out.below (below_alloc (Below.refl _ _) _)) (by have := HL2.out; simp; omega) (by simp) (fresh_row [a0_2] (by simp) HW2.out.lt (fun k hk => (HW2.out.row_ k hk).2) _ rfl) E2.out).mono ?_
  rintro en W3 ⟨rfl, row3, h1, h2, h3, h4⟩
  have HW3 := Lib.hid h1
  have HB3 := Lib.hid (HB2.out.trans ((below_alloc (Below.refl W2.heap.size W2) _).mono HL2.out |>.trans h3))
  have HL3 := Lib.hid (Nat.le_trans HL0.out HB3.out.size)
  have HX3 := Lib.hid ((HB3.out.block w.heap.size (by omega)).trans HX0.out)
  have HR3 := Lib.hid (clientmsg_Bytes_row (row1 := none) (blk_alloc HR2.out _) h4 (by omega) HQ2.out)
  have HQ3 := Lib.hid (clientmsg_Bytes_q (g := w.heap.size + 2) HQ2.out (by have := blk_lt HR2.out; simp; omega) h2)
  clear h1 h2 h3 h4
  clear c2 f2 y0 y1 y2
  have y0 : W3.cell? ⟨w.heap.size, 0, none⟩ = some (.int .i64 a0_0) := by rw [World.cell?, HX3.out]; rfl
  have y1 : W3.cell? ⟨w.heap.size, 1, none⟩ = some (.bool a0_1) := by rw [World.cell?, HX3.out]; rfl
  have y2 : W3.cell? ⟨w.heap.size, 2, none⟩ = some (.int .i64 a0_2) := by rw [World.cell?, HX3.out]; rfl
  have c2 := HW3.out.cell
  have f2 := HW3.out.frozen
  obtain ⟨er, her⟩ : ∃ er, st2.2 = er := ⟨_, rfl⟩
  have HE := Lib.hid (show endB (st2.1, er) = (r1, r2) from by rw [← her]; exact HE0.out)
  have HWe := Lib.hid (show Wr (w.heap.size + 1) (w.heap.size + 1) st2.1 er row3 W3 from by rw [← her]; exact HW3.out)
  rw [her] at c2
  clear her
  cases er with
  | true =>
    obtain ⟨rfl, rfl⟩ : (⟨#[]⟩ : ByteArray) = r1 ∧ (1 : Int) = r2 := Prod.mk.inj ((if_pos rfl).symm.trans HE.out)
    go_wp2_with fail
    go_ret2
    exact ⟨rfl, clientmsg_Bytes_low (HBW.out.trans (clientmsg_Bytes_low HB3.out (Nat.le_succ _))) (Nat.le_refl _)⟩
  | false =>
    obtain ⟨rfl, rfl⟩ : (⟨(st2.1).toArray⟩ : ByteArray) = r1 ∧ (0 : Int) = r2 := Prod.mk.inj ((if_neg (show ¬ (false = true) by decide)).symm.trans HE.out)
    go_wp2_with fail
    obtain ⟨cs, hbat, _, _⟩ := HWe.out
    refine (BL.String_c _ (w.heap.size + 1) (w.heap.size + 1) 0 cs row3 _ W3 hbat HL3.out).mono ?_
    rintro en Wz ⟨rfl, h3⟩
    have HBz := Lib.hid (HBW.out.trans (clientmsg_Bytes_low (HB3.out.trans h3) (Nat.le_succ _)))
    clear h3 hbat
    go_wp2_with fail
    go_ret2
    exact ⟨rfl, HBz.out⟩
set_option maxHeartbeats 8000000 in
set_option maxRecDepth 100000 in
theorem clientmsg_Bytes_pointer (a0_0 : Int) (a0_1 : Bool) (a0_2 : Int) (a0_3 : Int) (a0_4 : Int) (a0_5 : Int) (a0_6 : Int) (a0_7 : Int) (a0_8 : Int) (a0_9 : Bool) (a0_10 : Bool) (a0_11 : Int) (a0_12 : Int) (a0_13 : Int) (a0_14 : Int) (a0_15 : Int) (a0_16 : Int) (A0_17 : Option Addr) (c0_17 : Nat) (l0_17 : List Int) (a0_18 : ByteArray) (r1 : ByteArray) (r2 : Int) (w : World) (hk : a0_0 = 4) (st st2 : List UInt8 × Bool) (E1 : Hid (wInts 1 [5, a0_2] ([], false) = some st)) (E2 : Hid (wInts 2 [a0_3, a0_4] st = some st2)) (HE0 : Hid (endB st2 = (r1, r2))) :
    Calls Try.prog 13 #[.agg #[.int .i64 a0_0, .bool a0_1, .int .i64 a0_2, .int .i64 a0_3, .int .i64 a0_4, .int .i64 a0_5, .int .i64 a0_6, .int .i64 a0_7, .int .i64 a0_8, .bool a0_9, .bool a0_10, .int .i64 a0_11, .int .i64 a0_12, .int .i64 a0_13, .int .i64 a0_14, .int .i64 a0_15, .int .i64 a0_16, .slice A0_17 l0_17.length c0_17, .string a0_18]] w fun e w' => e = .returned (.tuple #[.string r1, .int .i64 r2]) ∧ Below w.heap.size w w' := by
  obtain ⟨W0, hW0⟩ : ∃ W0, ((((w.alloc (.cells #[.int .i64 a0_0, .bool a0_1, .int .i64 a0_2, .int .i64 a0_3, .int .i64 a0_4, .int .i64 a0_5, .int .i64 a0_6, .int .i64 a0_7, .int .i64 a0_8, .bool a0_9, .bool a0_10, .int .i64 a0_11, .int .i64 a0_12, .int .i64 a0_13, .int .i64 a0_14, .int .i64 a0_15, .int .i64 a0_16, .slice A0_17 l0_17.length c0_17, .string a0_18] 30)).alloc (.cells #[.pointer none, .slice none 0 0, .bool false] 67)).alloc (.cells #[.int .i64 0, .int .i64 0, .int .i64 0, .int .i64 0] 25)).setRow (w.heap.size + 1 + 1) #[.int .i64 a0_3, .int .i64 a0_4, .int .i64 a0_5, .int .i64 a0_6]) = W0 := ⟨_, rfl⟩
  have hst : rowAt (((w.alloc (.cells #[.int .i64 a0_0, .bool a0_1, .int .i64 a0_2, .int .i64 a0_3, .int .i64 a0_4, .int .i64 a0_5, .int .i64 a0_6, .int .i64 a0_7, .int .i64 a0_8, .bool a0_9, .bool a0_10, .int .i64 a0_11, .int .i64 a0_12, .int .i64 a0_13, .int .i64 a0_14, .int .i64 a0_15, .int .i64 a0_16, .slice A0_17 l0_17.length c0_17, .string a0_18] 30)).alloc (.cells #[.pointer none, .slice none 0 0, .bool false] 67)).alloc (.cells #[.int .i64 0, .int .i64 0, .int .i64 0, .int .i64 0] 25)) (w.heap.size + 1 + 1) 25 4 = true := by have := rowAt_rect ((w.alloc (.cells #[.int .i64 a0_0, .bool a0_1, .int .i64 a0_2, .int .i64 a0_3, .int .i64 a0_4, .int .i64 a0_5, .int .i64 a0_6, .int .i64 a0_7, .int .i64 a0_8, .bool a0_9, .bool a0_10, .int .i64 a0_11, .int .i64 a0_12, .int .i64 a0_13, .int .i64 a0_14, .int .i64 a0_15, .int .i64 a0_16, .slice A0_17 l0_17.length c0_17, .string a0_18] 30)).alloc (.cells #[.pointer none, .slice none 0 0, .bool false] 67)) #[.int .i64 0, .int .i64 0, .int .i64 0, .int .i64 0] rfl; rwa [World.size_alloc, World.size_alloc] at this
  have hr0 : ((w.alloc (.cells #[.int .i64 a0_0, .bool a0_1, .int .i64 a0_2, .int .i64 a0_3, .int .i64 a0_4, .int .i64 a0_5, .int .i64 a0_6, .int .i64 a0_7, .int .i64 a0_8, .bool a0_9, .bool a0_10, .int .i64 a0_11, .int .i64 a0_12, .int .i64 a0_13, .int .i64 a0_14, .int .i64 a0_15, .int .i64 a0_16, .slice A0_17 l0_17.length c0_17, .string a0_18] 30)).alloc (.cells #[.pointer none, .slice none 0 0, .bool false] 67)).heap.size = w.heap.size + 2 := by simp
  have hq0 := setRow_heap (((w.alloc (.cells #[.int .i64 a0_0, .bool a0_1, .int .i64 a0_2, .int .i64 a0_3, .int .i64 a0_4, .int .i64 a0_5, .int .i64 a0_6, .int .i64 a0_7, .int .i64 a0_8, .bool a0_9, .bool a0_10, .int .i64 a0_11, .int .i64 a0_12, .int .i64 a0_13, .int .i64 a0_14, .int .i64 a0_15, .int .i64 a0_16, .slice A0_17 l0_17.length c0_17, .string a0_18] 30)).alloc (.cells #[.pointer none, .slice none 0 0, .bool false] 67)).alloc (.cells #[.int .i64 0, .int .i64 0, .int .i64 0, .int .i64 0] 25)) (w.heap.size + 2) #[.int .i64 0, .int .i64 0, .int .i64 0, .int .i64 0] #[.int .i64 a0_3, .int .i64 a0_4, .int .i64 a0_5, .int .i64 a0_6] 25 (0, 0) (by have := heap_alloc_new ((w.alloc (.cells #[.int .i64 a0_0, .bool a0_1, .int .i64 a0_2, .int .i64 a0_3, .int .i64 a0_4, .int .i64 a0_5, .int .i64 a0_6, .int .i64 a0_7, .int .i64 a0_8, .bool a0_9, .bool a0_10, .int .i64 a0_11, .int .i64 a0_12, .int .i64 a0_13, .int .i64 a0_14, .int .i64 a0_15, .int .i64 a0_16, .slice A0_17 l0_17.length c0_17, .string a0_18] 30)).alloc (.cells #[.pointer none, .slice none 0 0, .bool false] 67)) (.cells #[.int .i64 0, .int .i64 0, .int .i64 0, .int .i64 0] 25); rw [hr0] at this; exact this)
  have HR0 := Lib.hid (show W0.heap[w.heap.size + 2]? = some (.cells #[.int .i64 a0_3, .int .i64 a0_4, .int .i64 a0_5, .int .i64 a0_6] 25 (0, 0)) from by rw [← hW0]; exact hq0)
  have HX0 := Lib.hid (show W0.heap[w.heap.size]? = some (.cells #[.int .i64 a0_0, .bool a0_1, .int .i64 a0_2, .int .i64 a0_3, .int .i64 a0_4, .int .i64 a0_5, .int .i64 a0_6, .int .i64 a0_7, .int .i64 a0_8, .bool a0_9, .bool a0_10, .int .i64 a0_11, .int .i64 a0_12, .int .i64 a0_13, .int .i64 a0_14, .int .i64 a0_15, .int .i64 a0_16, .slice A0_17 l0_17.length c0_17, .string a0_18] 30 (0, 0)) from by rw [← hW0]; exact (setRow_other _ _ _ _ (by omega)).trans ((Below.heap_alloc _ _ _ (by simp <;> omega)).trans ((Below.heap_alloc _ _ _ (by simp)).trans (heap_alloc_new w _))))
  have HW0 := Lib.hid (show Wr (w.heap.size + 1) (w.heap.size + 1) [] false none W0 from Wr.new (by rw [← hW0]; have h0 := heap_alloc_new (w.alloc (.cells #[.int .i64 a0_0, .bool a0_1, .int .i64 a0_2, .int .i64 a0_3, .int .i64 a0_4, .int .i64 a0_5, .int .i64 a0_6, .int .i64 a0_7, .int .i64 a0_8, .bool a0_9, .bool a0_10, .int .i64 a0_11, .int .i64 a0_12, .int .i64 a0_13, .int .i64 a0_14, .int .i64 a0_15, .int .i64 a0_16, .slice A0_17 l0_17.length c0_17, .string a0_18] 30)) (.cells #[.pointer none, .slice none 0 0, .bool false] 67); rw [World.size_alloc] at h0; exact (setRow_other _ _ _ _ (by omega)).trans ((Below.heap_alloc _ _ _ (by simp)).trans h0)) (Nat.le_refl _))
  have HBW := Lib.hid (show Below w.heap.size w W0 from by rw [← hW0]; exact below_row (below_alloc (below_alloc (below_alloc (Below.refl _ _) _) _) _) (by omega) _)
  have HB0 := Lib.hid (show Below (w.heap.size + 1) W0 W0 from Below.refl _ _)
  have HL0 := Lib.hid (show (w.heap.size + 1) ≤ W0.heap.size from by have := blk_lt HR0.out; omega)
  have HQ0 := Lib.hid (show ∀ q, (none : Option Nat) = some q → w.heap.size + 2 < q from fun q h => by cases h)
  have HZ0 := Lib.hid hW0
  clear hr0 hq0 hW0
  have k0 : (a0_0 == 0) = false := by rw [hk]; rfl
  have k1 : (a0_0 == 1) = false := by rw [hk]; rfl
  have k2 : (a0_0 == 2) = false := by rw [hk]; rfl
  have k3 : (a0_0 == 3) = false := by rw [hk]; rfl
  have k4 : (a0_0 == 4) = true := by simpa using hk
  clear hk
  have y0 : W0.cell? ⟨w.heap.size, 0, none⟩ = some (.int .i64 a0_0) := by rw [World.cell?, HX0.out]; rfl
  have y2 : W0.cell? ⟨w.heap.size, 2, none⟩ = some (.int .i64 a0_2) := by rw [World.cell?, HX0.out]; rfl
  have z0 : W0.cell? ⟨w.heap.size + 2, 0, none⟩ = some (.int .i64 a0_3) := by rw [World.cell?, HR0.out]; rfl
  have z1 : W0.cell? ⟨w.heap.size + 2, 1, none⟩ = some (.int .i64 a0_4) := by rw [World.cell?, HR0.out]; rfl
  have c2 := HW0.out.cell
  have f2 := HW0.out.frozen
  go_enter Try.func13, Try.ntmps13
  go_upto_region 3 with (fail)
  rw [HZ0.out]
  clear HZ0 hst
  go_wp2_with fail
  refine (ints_c (w.heap.size + 1) (w.heap.size + 1) [] false none 1 (some ⟨W0.heap.size, 0, none⟩) 2 [5, a0_2] st _ (HW0.out.below (below_alloc (Below.refl _ _) _)) (by have := HL0.out; simp; omega) (by simp) (fresh_row [5, a0_2] (by simp) HW0.out.lt (fun k hk => (HW0.out.row_ k hk).2) _ rfl) E1.out).mono ?_
  rintro en W1 ⟨rfl, row1, h1, h2, h3, h4⟩
  have HW1 := Lib.hid h1
  have HB1 := Lib.hid (HB0.out.trans ((below_alloc (Below.refl W0.heap.size W0) _).mono HL0.out |>.trans h3))
  have HL1 := Lib.hid (Nat.le_trans HL0.out HB1.out.size)
  have HX1 := Lib.hid ((HB1.out.block w.heap.size (by omega)).trans HX0.out)
  have HR1 := Lib.hid (clientmsg_Bytes_row (row1 := none) (blk_alloc HR0.out _) h4 (by omega) HQ0.out)
  have HQ1 := Lib.hid (clientmsg_Bytes_q (g := w.heap.size + 2) HQ0.out (by have := blk_lt HR0.out; simp; omega) h2)
  clear h1 h2 h3 h4
  clear c2 f2 y0 y2 z0 z1
  have y0 : W1.cell? ⟨w.heap.size, 0, none⟩ = some (.int .i64 a0_0) := by rw [World.cell?, HX1.out]; rfl
  have y2 : W1.cell? ⟨w.heap.size, 2, none⟩ = some (.int .i64 a0_2) := by rw [World.cell?, HX1.out]; rfl
  have z0 : W1.cell? ⟨w.heap.size + 2, 0, none⟩ = some (.int .i64 a0_3) := by rw [World.cell?, HR1.out]; rfl
  have z1 : W1.cell? ⟨w.heap.size + 2, 1, none⟩ = some (.int .i64 a0_4) := by rw [World.cell?, HR1.out]; rfl
  have c2 := HW1.out.cell
  have f2 := HW1.out.frozen
  go_wp2_with fail
  refine (ints_c (w.heap.size + 1) (w.heap.size + 1) st.1 st.2 row1 2 (some ⟨W1.heap.size, 0, none⟩) 2 [a0_3, a0_4] st2 _ (HW1.out.below (below_alloc (Below.refl _ _) _)) (by have := HL1.out; simp; omega) (by simp) (fresh_row [a0_3, a0_4] (by simp) HW1.out.lt (fun k hk => (HW1.out.row_ k hk).2) _ rfl) E2.out).mono ?_
  rintro en W2 ⟨rfl, row2, h1, h2, h3, h4⟩
  have HW2 := Lib.hid h1
  have HB2 := Lib.hid (HB1.out.trans ((below_alloc (Below.refl W1.heap.size W1) _).mono HL1.out |>.trans h3))
  have HL2 := Lib.hid (Nat.le_trans HL0.out HB2.out.size)
  have HX2 := Lib.hid ((HB2.out.block w.heap.size (by omega)).trans HX0.out)
  have HR2 := Lib.hid (clientmsg_Bytes_row (row1 := none) (blk_alloc HR1.out _) h4 (by omega) HQ1.out)
  have HQ2 := Lib.hid (clientmsg_Bytes_q (g := w.heap.size + 2) HQ1.out (by have := blk_lt HR1.out; simp; omega) h2)
  clear h1 h2 h3 h4
  clear c2 f2 y0 y2 z0 z1
  have y0 : W2.cell? ⟨w.heap.size, 0, none⟩ = some (.int .i64 a0_0) := by rw [World.cell?, HX2.out]; rfl
  have y2 : W2.cell? ⟨w.heap.size, 2, none⟩ = some (.int .i64 a0_2) := by rw [World.cell?, HX2.out]; rfl
  have z0 : W2.cell? ⟨w.heap.size + 2, 0, none⟩ = some (.int .i64 a0_3) := by rw [World.cell?, HR2.out]; rfl
  have z1 : W2.cell? ⟨w.heap.size + 2, 1, none⟩ = some (.int .i64 a0_4) := by rw [World.cell?, HR2.out]; rfl
  have c2 := HW2.out.cell
  have f2 := HW2.out.frozen
  obtain ⟨er, her⟩ : ∃ er, st2.2 = er := ⟨_, rfl⟩
  have HE := Lib.hid (show endB (st2.1, er) = (r1, r2) from by rw [← her]; exact HE0.out)
  have HWe := Lib.hid (show Wr (w.heap.size + 1) (w.heap.size + 1) st2.1 er row2 W2 from by rw [← her]; exact HW2.out)
  rw [her] at c2
  clear her
  cases er with
  | true =>
    obtain ⟨rfl, rfl⟩ : (⟨#[]⟩ : ByteArray) = r1 ∧ (1 : Int) = r2 := Prod.mk.inj ((if_pos rfl).symm.trans HE.out)
    go_wp2_with fail
    go_ret2
    exact ⟨rfl, clientmsg_Bytes_low (HBW.out.trans (clientmsg_Bytes_low HB2.out (Nat.le_succ _))) (Nat.le_refl _)⟩
  | false =>
    obtain ⟨rfl, rfl⟩ : (⟨(st2.1).toArray⟩ : ByteArray) = r1 ∧ (0 : Int) = r2 := Prod.mk.inj ((if_neg (show ¬ (false = true) by decide)).symm.trans HE.out)
    go_wp2_with fail
    obtain ⟨cs, hbat, _, _⟩ := HWe.out
    refine (BL.String_c _ (w.heap.size + 1) (w.heap.size + 1) 0 cs row2 _ W2 hbat HL2.out).mono ?_
    rintro en Wz ⟨rfl, h3⟩
    have HBz := Lib.hid (HBW.out.trans (clientmsg_Bytes_low (HB2.out.trans h3) (Nat.le_succ _)))
    clear h3 hbat
    go_wp2_with fail
    go_ret2
    exact ⟨rfl, HBz.out⟩
set_option maxHeartbeats 8000000 in
set_option maxRecDepth 100000 in
theorem clientmsg_Bytes_fmt (a0_0 : Int) (a0_1 : Bool) (a0_2 : Int) (a0_3 : Int) (a0_4 : Int) (a0_5 : Int) (a0_6 : Int) (a0_7 : Int) (a0_8 : Int) (a0_9 : Bool) (a0_10 : Bool) (a0_11 : Int) (a0_12 : Int) (a0_13 : Int) (a0_14 : Int) (a0_15 : Int) (a0_16 : Int) (A0_17 : Option Addr) (c0_17 : Nat) (l0_17 : List Int) (a0_18 : ByteArray) (r1 : ByteArray) (r2 : Int) (w : World) (hk : a0_0 = 0) (st : List UInt8 × Bool) (s : ByteArray) (HV : Hid (format_Valid.f a0_7 a0_8 a0_9 a0_10 a0_11 a0_12 a0_13 a0_14 a0_15 a0_16 = some true)) (E1 : Hid (wInts 4 [0] ([], false) = some st)) (E2 : Hid (format_Bytes.f a0_7 a0_8 a0_9 a0_10 a0_11 a0_12 a0_13 a0_14 a0_15 a0_16 = some s)) (HSZ : Hid (st.1.length + s.size ≤ 140737488351232)) (HE0 : Hid (endB (st.1 ++ s.data.toList, st.2) = (r1, r2))) :
    Calls Try.prog 13 #[.agg #[.int .i64 a0_0, .bool a0_1, .int .i64 a0_2, .int .i64 a0_3, .int .i64 a0_4, .int .i64 a0_5, .int .i64 a0_6, .int .i64 a0_7, .int .i64 a0_8, .bool a0_9, .bool a0_10, .int .i64 a0_11, .int .i64 a0_12, .int .i64 a0_13, .int .i64 a0_14, .int .i64 a0_15, .int .i64 a0_16, .slice A0_17 l0_17.length c0_17, .string a0_18]] w fun e w' => e = .returned (.tuple #[.string r1, .int .i64 r2]) ∧ Below w.heap.size w w' := by
  obtain ⟨W0, hW0⟩ : ∃ W0, ((((w.alloc (.cells #[.int .i64 a0_0, .bool a0_1, .int .i64 a0_2, .int .i64 a0_3, .int .i64 a0_4, .int .i64 a0_5, .int .i64 a0_6, .int .i64 a0_7, .int .i64 a0_8, .bool a0_9, .bool a0_10, .int .i64 a0_11, .int .i64 a0_12, .int .i64 a0_13, .int .i64 a0_14, .int .i64 a0_15, .int .i64 a0_16, .slice A0_17 l0_17.length c0_17, .string a0_18] 30)).alloc (.cells #[.pointer none, .slice none 0 0, .bool false] 67)).alloc (.cells #[.int .i64 0, .int .i64 0, .int .i64 0, .int .i64 0] 25)).setRow (w.heap.size + 1 + 1) #[.int .i64 a0_3, .int .i64 a0_4, .int .i64 a0_5, .int .i64 a0_6]) = W0 := ⟨_, rfl⟩
  have hst : rowAt (((w.alloc (.cells #[.int .i64 a0_0, .bool a0_1, .int .i64 a0_2, .int .i64 a0_3, .int .i64 a0_4, .int .i64 a0_5, .int .i64 a0_6, .int .i64 a0_7, .int .i64 a0_8, .bool a0_9, .bool a0_10, .int .i64 a0_11, .int .i64 a0_12, .int .i64 a0_13, .int .i64 a0_14, .int .i64 a0_15, .int .i64 a0_16, .slice A0_17 l0_17.length c0_17, .string a0_18] 30)).alloc (.cells #[.pointer none, .slice none 0 0, .bool false] 67)).alloc (.cells #[.int .i64 0, .int .i64 0, .int .i64 0, .int .i64 0] 25)) (w.heap.size + 1 + 1) 25 4 = true := by have := rowAt_rect ((w.alloc (.cells #[.int .i64 a0_0, .bool a0_1, .int .i64 a0_2, .int .i64 a0_3, .int .i64 a0_4, .int .i64 a0_5, .int .i64 a0_6, .int .i64 a0_7, .int .i64 a0_8, .bool a0_9, .bool a0_10, .int .i64 a0_11, .int .i64 a0_12, .int .i64 a0_13, .int .i64 a0_14, .int .i64 a0_15, .int .i64 a0_16, .slice A0_17 l0_17.length c0_17, .string a0_18] 30)).alloc (.cells #[.pointer none, .slice none 0 0, .bool false] 67)) #[.int .i64 0, .int .i64 0, .int .i64 0, .int .i64 0] rfl; rwa [World.size_alloc, World.size_alloc] at this
  have hr0 : ((w.alloc (.cells #[.int .i64 a0_0, .bool a0_1, .int .i64 a0_2, .int .i64 a0_3, .int .i64 a0_4, .int .i64 a0_5, .int .i64 a0_6, .int .i64 a0_7, .int .i64 a0_8, .bool a0_9, .bool a0_10, .int .i64 a0_11, .int .i64 a0_12, .int .i64 a0_13, .int .i64 a0_14, .int .i64 a0_15, .int .i64 a0_16, .slice A0_17 l0_17.length c0_17, .string a0_18] 30)).alloc (.cells #[.pointer none, .slice none 0 0, .bool false] 67)).heap.size = w.heap.size + 2 := by simp
  have hq0 := setRow_heap (((w.alloc (.cells #[.int .i64 a0_0, .bool a0_1, .int .i64 a0_2, .int .i64 a0_3, .int .i64 a0_4, .int .i64 a0_5, .int .i64 a0_6, .int .i64 a0_7, .int .i64 a0_8, .bool a0_9, .bool a0_10, .int .i64 a0_11, .int .i64 a0_12, .int .i64 a0_13, .int .i64 a0_14, .int .i64 a0_15, .int .i64 a0_16, .slice A0_17 l0_17.length c0_17, .string a0_18] 30)).alloc (.cells #[.pointer none, .slice none 0 0, .bool false] 67)).alloc (.cells #[.int .i64 0, .int .i64 0, .int .i64 0, .int .i64 0] 25)) (w.heap.size + 2) #[.int .i64 0, .int .i64 0, .int .i64 0, .int .i64 0] #[.int .i64 a0_3, .int .i64 a0_4, .int .i64 a0_5, .int .i64 a0_6] 25 (0, 0) (by have := heap_alloc_new ((w.alloc (.cells #[.int .i64 a0_0, .bool a0_1, .int .i64 a0_2, .int .i64 a0_3, .int .i64 a0_4, .int .i64 a0_5, .int .i64 a0_6, .int .i64 a0_7, .int .i64 a0_8, .bool a0_9, .bool a0_10, .int .i64 a0_11, .int .i64 a0_12, .int .i64 a0_13, .int .i64 a0_14, .int .i64 a0_15, .int .i64 a0_16, .slice A0_17 l0_17.length c0_17, .string a0_18] 30)).alloc (.cells #[.pointer none, .slice none 0 0, .bool false] 67)) (.cells #[.int .i64 0, .int .i64 0, .int .i64 0, .int .i64 0] 25); rw [hr0] at this; exact this)
  have HR0 := Lib.hid (show W0.heap[w.heap.size + 2]? = some (.cells #[.int .i64 a0_3, .int .i64 a0_4, .int .i64 a0_5, .int .i64 a0_6] 25 (0, 0)) from by rw [← hW0]; exact hq0)
  have HX0 := Lib.hid (show W0.heap[w.heap.size]? = some (.cells #[.int .i64 a0_0, .bool a0_1, .int .i64 a0_2, .int .i64 a0_3, .int .i64 a0_4, .int .i64 a0_5, .int .i64 a0_6, .int .i64 a0_7, .int .i64 a0_8, .bool a0_9, .bool a0_10, .int .i64 a0_11, .int .i64 a0_12, .int .i64 a0_13, .int .i64 a0_14, .int .i64 a0_15, .int .i64 a0_16, .slice A0_17 l0_17.length c0_17, .string a0_18] 30 (0, 0)) from by rw [← hW0]; exact (setRow_other _ _ _ _ (by omega)).trans ((Below.heap_alloc _ _ _ (by simp <;> omega)).trans ((Below.heap_alloc _ _ _ (by simp)).trans (heap_alloc_new w _))))
  have HW0 := Lib.hid (show Wr (w.heap.size + 1) (w.heap.size + 1) [] false none W0 from Wr.new (by rw [← hW0]; have h0 := heap_alloc_new (w.alloc (.cells #[.int .i64 a0_0, .bool a0_1, .int .i64 a0_2, .int .i64 a0_3, .int .i64 a0_4, .int .i64 a0_5, .int .i64 a0_6, .int .i64 a0_7, .int .i64 a0_8, .bool a0_9, .bool a0_10, .int .i64 a0_11, .int .i64 a0_12, .int .i64 a0_13, .int .i64 a0_14, .int .i64 a0_15, .int .i64 a0_16, .slice A0_17 l0_17.length c0_17, .string a0_18] 30)) (.cells #[.pointer none, .slice none 0 0, .bool false] 67); rw [World.size_alloc] at h0; exact (setRow_other _ _ _ _ (by omega)).trans ((Below.heap_alloc _ _ _ (by simp)).trans h0)) (Nat.le_refl _))
  have HBW := Lib.hid (show Below w.heap.size w W0 from by rw [← hW0]; exact below_row (below_alloc (below_alloc (below_alloc (Below.refl _ _) _) _) _) (by omega) _)
  have HB0 := Lib.hid (show Below (w.heap.size + 1) W0 W0 from Below.refl _ _)
  have HL0 := Lib.hid (show (w.heap.size + 1) ≤ W0.heap.size from by have := blk_lt HR0.out; omega)
  have HQ0 := Lib.hid (show ∀ q, (none : Option Nat) = some q → w.heap.size + 2 < q from fun q h => by cases h)
  have HZ0 := Lib.hid hW0
  clear hr0 hq0 hW0
  have k0 : (a0_0 == 0) = true := by simpa using hk
  clear hk
  have y0 : W0.cell? ⟨w.heap.size, 0, none⟩ = some (.int .i64 a0_0) := by rw [World.cell?, HX0.out]; rfl
  have y7 : W0.cell? ⟨w.heap.size, 7, none⟩ = some (.int .i64 a0_7) := by rw [World.cell?, HX0.out]; rfl
  have y8 : W0.cell? ⟨w.heap.size, 8, none⟩ = some (.int .i64 a0_8) := by rw [World.cell?, HX0.out]; rfl
  have y9 : W0.cell? ⟨w.heap.size, 9, none⟩ = some (.bool a0_9) := by rw [World.cell?, HX0.out]; rfl
  have y10 : W0.cell? ⟨w.heap.size, 10, none⟩ = some (.bool a0_10) := by rw [World.cell?, HX0.out]; rfl
  have y11 : W0.cell? ⟨w.heap.size, 11, none⟩ = some (.int .i64 a0_11) := by rw [World.cell?, HX0.out]; rfl
  have y12 : W0.cell? ⟨w.heap.size, 12, none⟩ = some (.int .i64 a0_12) := by rw [World.cell?, HX0.out]; rfl
  have y13 : W0.cell? ⟨w.heap.size, 13, none⟩ = some (.int .i64 a0_13) := by rw [World.cell?, HX0.out]; rfl
  have y14 : W0.cell? ⟨w.heap.size, 14, none⟩ = some (.int .i64 a0_14) := by rw [World.cell?, HX0.out]; rfl
  have y15 : W0.cell? ⟨w.heap.size, 15, none⟩ = some (.int .i64 a0_15) := by rw [World.cell?, HX0.out]; rfl
  have y16 : W0.cell? ⟨w.heap.size, 16, none⟩ = some (.int .i64 a0_16) := by rw [World.cell?, HX0.out]; rfl
  have c2 := HW0.out.cell
  have f2 := HW0.out.frozen
  go_enter Try.func13, Try.ntmps13
  go_upto_region 3 with (fail)
  rw [HZ0.out]
  clear HZ0 hst
  go_wp2_with fail
  refine (format_Valid.calls a0_7 a0_8 a0_9 a0_10 a0_11 a0_12 a0_13 a0_14 a0_15 a0_16 true W0 HV.out).mono ?_
  rintro en W1 ⟨rfl, hb⟩
  have HW1 := Lib.hid (HW0.out.below hb)
  have HB1 := Lib.hid (HB0.out.trans (hb.mono HL0.out))
  have HL1 := Lib.hid (Nat.le_trans HL0.out HB1.out.size)
  have HX1 := Lib.hid ((HB1.out.block w.heap.size (by omega)).trans HX0.out)
  have HR1 := Lib.hid (blk_below HR0.out hb)
  have HQ1 := Lib.hid HQ0.out
  clear hb
  clear c2 f2 y0 y7 y8 y9 y10 y11 y12 y13 y14 y15 y16
  have y0 : W1.cell? ⟨w.heap.size, 0, none⟩ = some (.int .i64 a0_0) := by rw [World.cell?, HX1.out]; rfl
  have y7 : W1.cell? ⟨w.heap.size, 7, none⟩ = some (.int .i64 a0_7) := by rw [World.cell?, HX1.out]; rfl
  have y8 : W1.cell? ⟨w.heap.size, 8, none⟩ = some (.int .i64 a0_8) := by rw [World.cell?, HX1.out]; rfl
  have y9 : W1.cell? ⟨w.heap.size, 9, none⟩ = some (.bool a0_9) := by rw [World.cell?, HX1.out]; rfl
  have y10 : W1.cell? ⟨w.heap.size, 10, none⟩ = some (.bool a0_10) := by rw [World.cell?, HX1.out]; rfl
  have y11 : W1.cell? ⟨w.heap.size, 11, none⟩ = some (.int .i64 a0_11) := by rw [World.cell?, HX1.out]; rfl
  have y12 : W1.cell? ⟨w.heap.size, 12, none⟩ = some (.int .i64 a0_12) := by rw [World.cell?, HX1.out]; rfl
  have y13 : W1.cell? ⟨w.heap.size, 13, none⟩ = some (.int .i64 a0_13) := by rw [World.cell?, HX1.out]; rfl
  have y14 : W1.cell? ⟨w.heap.size, 14, none⟩ = some (.int .i64 a0_14) := by rw [World.cell?, HX1.out]; rfl
  have y15 : W1.cell? ⟨w.heap.size, 15, none⟩ = some (.int .i64 a0_15) := by rw [World.cell?, HX1.out]; rfl
  have y16 : W1.cell? ⟨w.heap.size, 16, none⟩ = some (.int .i64 a0_16) := by rw [World.cell?, HX1.out]; rfl
  have c2 := HW1.out.cell
  have f2 := HW1.out.frozen
  go_wp2_with fail
  refine (ints_c (w.heap.size + 1) (w.heap.size + 1) [] false none 4 (some ⟨W1.heap.size, 0, none⟩) 1 [0] st _ (HW1.out.below (below_alloc (Below.refl _ _) _)) (by have := HL1.out; simp; omega) (by simp) (fresh_row [0] (by simp) HW1.out.lt (fun k hk => (HW1.out.row_ k hk).2) _ rfl) E1.out).mono ?_
  rintro en W2 ⟨rfl, row2, h1, h2, h3, h4⟩
  have HW2 := Lib.hid h1
  have HB2 := Lib.hid (HB1.out.trans ((below_alloc (Below.refl W1.heap.size W1) _).mono HL1.out |>.trans h3))
  have HL2 := Lib.hid (Nat.le_trans HL0.out HB2.out.size)
  have HX2 := Lib.hid ((HB2.out.block w.heap.size (by omega)).trans HX0.out)
  have HR2 := Lib.hid (clientmsg_Bytes_row (row1 := none) (blk_alloc HR1.out _) h4 (by omega) HQ1.out)
  have HQ2 := Lib.hid (clientmsg_Bytes_q (g := w.heap.size + 2) HQ1.out (by have := blk_lt HR1.out; simp; omega) h2)
  clear h1 h2 h3 h4
  clear c2 f2 y0 y7 y8 y9 y10 y11 y12 y13 y14 y15 y16
  have y0 : W2.cell? ⟨w.heap.size, 0, none⟩ = some (.int .i64 a0_0) := by rw [World.cell?, HX2.out]; rfl
  have y7 : W2.cell? ⟨w.heap.size, 7, none⟩ = some (.int .i64 a0_7) := by rw [World.cell?, HX2.out]; rfl
  have y8 : W2.cell? ⟨w.heap.size, 8, none⟩ = some (.int .i64 a0_8) := by rw [World.cell?, HX2.out]; rfl
  have y9 : W2.cell? ⟨w.heap.size, 9, none⟩ = some (.bool a0_9) := by rw [World.cell?, HX2.out]; rfl
  have y10 : W2.cell? ⟨w.heap.size, 10, none⟩ = some (.bool a0_10) := by rw [World.cell?, HX2.out]; rfl
  have y11 : W2.cell? ⟨w.heap.size, 11, none⟩ = some (.int .i64 a0_11) := by rw [World.cell?, HX2.out]; rfl
  have y12 : W2.cell? ⟨w.heap.size, 12, none⟩ = some (.int .i64 a0_12) := by rw [World.cell?, HX2.out]; rfl
  have y13 : W2.cell? ⟨w.heap.size, 13, none⟩ = some (.int .i64 a0_13) := by rw [World.cell?, HX2.out]; rfl
  have y14 : W2.cell? ⟨w.heap.size, 14, none⟩ = some (.int .i64 a0_14) := by rw [World.cell?, HX2.out]; rfl
  have y15 : W2.cell? ⟨w.heap.size, 15, none⟩ = some (.int .i64 a0_15) := by rw [World.cell?, HX2.out]; rfl
  have y16 : W2.cell? ⟨w.heap.size, 16, none⟩ = some (.int .i64 a0_16) := by rw [World.cell?, HX2.out]; rfl
  have c2 := HW2.out.cell
  have f2 := HW2.out.frozen
  go_wp2_with fail
  refine (format_Bytes.calls a0_7 a0_8 a0_9 a0_10 a0_11 a0_12 a0_13 a0_14 a0_15 a0_16 s W2 E2.out).mono ?_
  rintro en W3 ⟨rfl, hb⟩
  have HW3 := Lib.hid (HW2.out.below hb)
  have HB3 := Lib.hid (HB2.out.trans (hb.mono HL2.out))
  have HL3 := Lib.hid (Nat.le_trans HL0.out HB3.out.size)
  have HX3 := Lib.hid ((HB3.out.block w.heap.size (by omega)).trans HX0.out)
  have HR3 := Lib.hid (blk_below HR2.out hb)
  have HQ3 := Lib.hid HQ2.out
  clear hb
  clear c2 f2 y0 y7 y8 y9 y10 y11 y12 y13 y14 y15 y16
  have y0 : W3.cell? ⟨w.heap.size, 0, none⟩ = some (.int .i64 a0_0) := by rw [World.cell?, HX3.out]; rfl
  have y7 : W3.cell? ⟨w.heap.size, 7, none⟩ = some (.int .i64 a0_7) := by rw [World.cell?, HX3.out]; rfl
  have y8 : W3.cell? ⟨w.heap.size, 8, none⟩ = some (.int .i64 a0_8) := by rw [World.cell?, HX3.out]; rfl
  have y9 : W3.cell? ⟨w.heap.size, 9, none⟩ = some (.bool a0_9) := by rw [World.cell?, HX3.out]; rfl
  have y10 : W3.cell? ⟨w.heap.size, 10, none⟩ = some (.bool a0_10) := by rw [World.cell?, HX3.out]; rfl
  have y11 : W3.cell? ⟨w.heap.size, 11, none⟩ = some (.int .i64 a0_11) := by rw [World.cell?, HX3.out]; rfl
  have y12 : W3.cell? ⟨w.heap.size, 12, none⟩ = some (.int .i64 a0_12) := by rw [World.cell?, HX3.out]; rfl
  have y13 : W3.cell? ⟨w.heap.size, 13, none⟩ = some (.int .i64 a0_13) := by rw [World.cell?, HX3.out]; rfl
  have y14 : W3.cell? ⟨w.heap.size, 14, none⟩ = some (.int .i64 a0_14) := by rw [World.cell?, HX3.out]; rfl
  have y15 : W3.cell? ⟨w.heap.size, 15, none⟩ = some (.int .i64 a0_15) := by rw [World.cell?, HX3.out]; rfl
  have y16 : W3.cell? ⟨w.heap.size, 16, none⟩ = some (.int .i64 a0_16) := by rw [World.cell?, HX3.out]; rfl
  have c2 := HW3.out.cell
  have f2 := HW3.out.frozen
  go_wp2_with fail
  refine (write_c (w.heap.size + 1) (w.heap.size + 1) st.1 st.2 row2 s W3 HW3.out (by have := HSZ.out; omega) HL3.out).mono ?_
  rintro en W4 ⟨rfl, row4, h1, h2, h3, h4⟩
  have HW4 := Lib.hid h1
  have HB4 := Lib.hid (HB3.out.trans (h3))
  have HL4 := Lib.hid (Nat.le_trans HL0.out HB4.out.size)
  have HX4 := Lib.hid ((HB4.out.block w.heap.size (by omega)).trans HX0.out)
  have HR4 := Lib.hid (clientmsg_Bytes_row (row1 := none) (HR3.out) h4 (by omega) HQ3.out)
  have HQ4 := Lib.hid (clientmsg_Bytes_q (g := w.heap.size + 2) HQ3.out (blk_lt HR3.out) h2)
  clear h1 h2 h3 h4
  clear c2 f2 y0 y7 y8 y9 y10 y11 y12 y13 y14 y15 y16
  have y0 : W4.cell? ⟨w.heap.size, 0, none⟩ = some (.int .i64 a0_0) := by rw [World.cell?, HX4.out]; rfl
  have y7 : W4.cell? ⟨w.heap.size, 7, none⟩ = some (.int .i64 a0_7) := by rw [World.cell?, HX4.out]; rfl
  have y8 : W4.cell? ⟨w.heap.size, 8, none⟩ = some (.int .i64 a0_8) := by rw [World.cell?, HX4.out]; rfl
  have y9 : W4.cell? ⟨w.heap.size, 9, none⟩ = some (.bool a0_9) := by rw [World.cell?, HX4.out]; rfl
  have y10 : W4.cell? ⟨w.heap.size, 10, none⟩ = some (.bool a0_10) := by rw [World.cell?, HX4.out]; rfl
  have y11 : W4.cell? ⟨w.heap.size, 11, none⟩ = some (.int .i64 a0_11) := by rw [World.cell?, HX4.out]; rfl
  have y12 : W4.cell? ⟨w.heap.size, 12, none⟩ = some (.int .i64 a0_12) := by rw [World.cell?, HX4.out]; rfl
  have y13 : W4.cell? ⟨w.heap.size, 13, none⟩ = some (.int .i64 a0_13) := by rw [World.cell?, HX4.out]; rfl
  have y14 : W4.cell? ⟨w.heap.size, 14, none⟩ = some (.int .i64 a0_14) := by rw [World.cell?, HX4.out]; rfl
  have y15 : W4.cell? ⟨w.heap.size, 15, none⟩ = some (.int .i64 a0_15) := by rw [World.cell?, HX4.out]; rfl
  have y16 : W4.cell? ⟨w.heap.size, 16, none⟩ = some (.int .i64 a0_16) := by rw [World.cell?, HX4.out]; rfl
  have c2 := HW4.out.cell
  have f2 := HW4.out.frozen
  obtain ⟨er, her⟩ : ∃ er, st.2 = er := ⟨_, rfl⟩
  have HE := Lib.hid (show endB ((st.1 ++ s.data.toList), er) = (r1, r2) from by rw [← her]; exact HE0.out)
  have HWe := Lib.hid (show Wr (w.heap.size + 1) (w.heap.size + 1) (st.1 ++ s.data.toList) er row4 W4 from by rw [← her]; exact HW4.out)
  rw [her] at c2
  clear her
  cases er with
  | true =>
    obtain ⟨rfl, rfl⟩ : (⟨#[]⟩ : ByteArray) = r1 ∧ (1 : Int) = r2 := Prod.mk.inj ((if_pos rfl).symm.trans HE.out)
    go_wp2_with fail
    go_ret2
    exact ⟨rfl, clientmsg_Bytes_low (HBW.out.trans (clientmsg_Bytes_low HB4.out (Nat.le_succ _))) (Nat.le_refl _)⟩
  | false =>
    obtain ⟨rfl, rfl⟩ : (⟨((st.1 ++ s.data.toList)).toArray⟩ : ByteArray) = r1 ∧ (0 : Int) = r2 := Prod.mk.inj ((if_neg (show ¬ (false = true) by decide)).symm.trans HE.out)
    go_wp2_with fail
    obtain ⟨cs, hbat, _, _⟩ := HWe.out
    refine (BL.String_c _ (w.heap.size + 1) (w.heap.size + 1) 0 cs row4 _ W4 hbat HL4.out).mono ?_
    rintro en Wz ⟨rfl, h3⟩
    have HBz := Lib.hid (HBW.out.trans (clientmsg_Bytes_low (HB4.out.trans h3) (Nat.le_succ _)))
    clear h3 hbat
    go_wp2_with fail
    go_ret2
    exact ⟨rfl, HBz.out⟩
set_option maxHeartbeats 8000000 in
set_option maxRecDepth 100000 in
theorem clientmsg_Bytes_nofmt (a0_0 : Int) (a0_1 : Bool) (a0_2 : Int) (a0_3 : Int) (a0_4 : Int) (a0_5 : Int) (a0_6 : Int) (a0_7 : Int) (a0_8 : Int) (a0_9 : Bool) (a0_10 : Bool) (a0_11 : Int) (a0_12 : Int) (a0_13 : Int) (a0_14 : Int) (a0_15 : Int) (a0_16 : Int) (A0_17 : Option Addr) (c0_17 : Nat) (l0_17 : List Int) (a0_18 : ByteArray) (r1 : ByteArray) (r2 : Int) (w : World) (hr1 : r1 = ⟨#[]⟩) (hr2 : r2 = 130) (hk : a0_0 = 0) (HV : Hid (format_Valid.f a0_7 a0_8 a0_9 a0_10 a0_11 a0_12 a0_13 a0_14 a0_15 a0_16 = some false)) :
    Calls Try.prog 13 #[.agg #[.int .i64 a0_0, .bool a0_1, .int .i64 a0_2, .int .i64 a0_3, .int .i64 a0_4, .int .i64 a0_5, .int .i64 a0_6, .int .i64 a0_7, .int .i64 a0_8, .bool a0_9, .bool a0_10, .int .i64 a0_11, .int .i64 a0_12, .int .i64 a0_13, .int .i64 a0_14, .int .i64 a0_15, .int .i64 a0_16, .slice A0_17 l0_17.length c0_17, .string a0_18]] w fun e w' => e = .returned (.tuple #[.string r1, .int .i64 r2]) ∧ Below w.heap.size w w' := by
  obtain ⟨W0, hW0⟩ : ∃ W0, ((((w.alloc (.cells #[.int .i64 a0_0, .bool a0_1, .int .i64 a0_2, .int .i64 a0_3, .int .i64 a0_4, .int .i64 a0_5, .int .i64 a0_6, .int .i64 a0_7, .int .i64 a0_8, .bool a0_9, .bool a0_10, .int .i64 a0_11, .int .i64 a0_12, .int .i64 a0_13, .int .i64 a0_14, .int .i64 a0_15, .int .i64 a0_16, .slice A0_17 l0_17.length c0_17, .string a0_18] 30)).alloc (.cells #[.pointer none, .slice none 0 0, .bool false] 67)).alloc (.cells #[.int .i64 0, .int .i64 0, .int .i64 0, .int .i64 0] 25)).setRow (w.heap.size + 1 + 1) #[.int .i64 a0_3, .int .i64 a0_4, .int .i64 a0_5, .int .i64 a0_6]) = W0 := ⟨_, rfl⟩
  have hst : rowAt (((w.alloc (.cells #[.int .i64 a0_0, .bool a0_1, .int .i64 a0_2, .int .i64 a0_3, .int .i64 a0_4, .int .i64 a0_5, .int .i64 a0_6, .int .i64 a0_7, .int .i64 a0_8, .bool a0_9, .bool a0_10, .int .i64 a0_11, .int .i64 a0_12, .int .i64 a0_13, .int .i64 a0_14, .int .i64 a0_15, .int .i64 a0_16, .slice A0_17 l0_17.length c0_17, .string a0_18] 30)).alloc (.cells #[.pointer none, .slice none 0 0, .bool false] 67)).alloc (.cells #[.int .i64 0, .int .i64 0, .int .i64 0, .int .i64 0] 25)) (w.heap.size + 1 + 1) 25 4 = true := by have := rowAt_rect ((w.alloc (.cells #[.int .i64 a0_0, .bool a0_1, .int .i64 a0_2, .int .i64 a0_3, .int .i64 a0_4, .int .i64 a0_5, .int .i64 a0_6, .int .i64 a0_7, .int .i64 a0_8, .bool a0_9, .bool a0_10, .int .i64 a0_11, .int .i64 a0_12, .int .i64 a0_13, .int .i64 a0_14, .int .i64 a0_15, .int .i64 a0_16, .slice A0_17 l0_17.length c0_17, .string a0_18] 30)).alloc (.cells #[.pointer none, .slice none 0 0, .bool false] 67)) #[.int .i64 0, .int .i64 0, .int .i64 0, .int .i64 0] rfl; rwa [World.size_alloc, World.size_alloc] at this
  have hr0 : ((w.alloc (.cells #[.int .i64 a0_0, .bool a0_1, .int .i64 a0_2, .int .i64 a0_3, .int .i64 a0_4, .int .i64 a0_5, .int .i64 a0_6, .int .i64 a0_7, .int .i64 a0_8, .bool a0_9, .bool a0_10, .int .i64 a0_11, .int .i64 a0_12, .int .i64 a0_13, .int .i64 a0_14, .int .i64 a0_15, .int .i64 a0_16, .slice A0_17 l0_17.length c0_17, .string a0_18] 30)).alloc (.cells #[.pointer none, .slice none 0 0, .bool false] 67)).heap.size = w.heap.size + 2 := by simp
  have hq0 := setRow_heap (((w.alloc (.cells #[.int .i64 a0_0, .bool a0_1, .int .i64 a0_2, .int .i64 a0_3, .int .i64 a0_4, .int .i64 a0_5, .int .i64 a0_6, .int .i64 a0_7, .int .i64 a0_8, .bool a0_9, .bool a0_10, .int .i64 a0_11, .int .i64 a0_12, .int .i64 a0_13, .int .i64 a0_14, .int .i64 a0_15, .int .i64 a0_16, .slice A0_17 l0_17.length c0_17, .string a0_18] 30)).alloc (.cells #[.pointer none, .slice none 0 0, .bool false] 67)).alloc (.cells #[.int .i64 0, .int .i64 0, .int .i64 0, .int .i64 0] 25)) (w.heap.size + 2) #[.int .i64 0, .int .i64 0, .int .i64 0, .int .i64 0] #[.int .i64 a0_3, .int .i64 a0_4, .int .i64 a0_5, .int .i64 a0_6] 25 (0, 0) (by have := heap_alloc_new ((w.alloc (.cells #[.int .i64 a0_0, .bool a0_1, .int .i64 a0_2, .int .i64 a0_3, .int .i64 a0_4, .int .i64 a0_5, .int .i64 a0_6, .int .i64 a0_7, .int .i64 a0_8, .bool a0_9, .bool a0_10, .int .i64 a0_11, .int .i64 a0_12, .int .i64 a0_13, .int .i64 a0_14, .int .i64 a0_15, .int .i64 a0_16, .slice A0_17 l0_17.length c0_17, .string a0_18] 30)).alloc (.cells #[.pointer none, .slice none 0 0, .bool false] 67)) (.cells #[.int .i64 0, .int .i64 0, .int .i64 0, .int .i64 0] 25); rw [hr0] at this; exact this)
  have HR0 := Lib.hid (show W0.heap[w.heap.size + 2]? = some (.cells #[.int .i64 a0_3, .int .i64 a0_4, .int .i64 a0_5, .int .i64 a0_6] 25 (0, 0)) from by rw [← hW0]; exact hq0)
  have HX0 := Lib.hid (show W0.heap[w.heap.size]? = some (.cells #[.int .i64 a0_0, .bool a0_1, .int .i64 a0_2, .int .i64 a0_3, .int .i64 a0_4, .int .i64 a0_5, .int .i64 a0_6, .int .i64 a0_7, .int .i64 a0_8, .bool a0_9, .bool a0_10, .int .i64 a0_11, .int .i64 a0_12, .int .i64 a0_13, .int .i64 a0_14, .int .i64 a0_15, .int .i64 a0_16, .slice A0_17 l0_17.length c0_17, .string a0_18] 30 (0, 0)) from by rw [← hW0]; exact (setRow_other _ _ _ _ (by omega)).trans ((Below.heap_alloc _ _ _ (by simp <;> omega)).trans ((Below.heap_alloc _ _ _ (by simp)).trans (heap_alloc_new w _))))
  have HW0 := Lib.hid (show Wr (w.heap.size + 1) (w.heap.size + 1) [] false none W0 from Wr.new (by rw [← hW0]; have h0 := heap_alloc_new (w.alloc (.cells #[.int .i64 a0_0, .bool a0_1, .int .i64 a0_2, .int .i64 a0_3, .int .i64 a0_4, .int .i64 a0_5, .int .i64 a0_6, .int .i64 a0_7, .int .i64 a0_8, .bool a0_9, .bool a0_10, .int .i64 a0_11, .int .i64 a0_12, .int .i64 a0_13, .int .i64 a0_14, .int .i64 a0_15, .int .i64 a0_16, .slice A0_17 l0_17.length c0_17, .string a0_18] 30)) (.cells #[.pointer none, .slice none 0 0, .bool false] 67); rw [World.size_alloc] at h0; exact (setRow_other _ _ _ _ (by omega)).trans ((Below.heap_alloc _ _ _ (by simp)).trans h0)) (Nat.le_refl _))
  have HBW := Lib.hid (show Below w.heap.size w W0 from by rw [← hW0]; exact below_row (below_alloc (below_alloc (below_alloc (Below.refl _ _) _) _) _) (by omega) _)
  have HB0 := Lib.hid (show Below (w.heap.size + 1) W0 W0 from Below.refl _ _)
  have HL0 := Lib.hid (show (w.heap.size + 1) ≤ W0.heap.size from by have := blk_lt HR0.out; omega)
  have HQ0 := Lib.hid (show ∀ q, (none : Option Nat) = some q → w.heap.size + 2 < q from fun q h => by cases h)
  have HZ0 := Lib.hid hW0
  clear hr0 hq0 hW0
  subst hr1 hr2
  have k0 : (a0_0 == 0) = true := by simpa using hk
  clear hk
  have y0 : W0.cell? ⟨w.heap.size, 0, none⟩ = some (.int .i64 a0_0) := by rw [World.cell?, HX0.out]; rfl
  have y7 : W0.cell? ⟨w.heap.size, 7, none⟩ = some (.int .i64 a0_7) := by rw [World.cell?, HX0.out]; rfl
  have y8 : W0.cell? ⟨w.heap.size, 8, none⟩ = some (.int .i64 a0_8) := by rw [World.cell?, HX0.out]; rfl
  have y9 : W0.cell? ⟨w.heap.size, 9, none⟩ = some (.bool a0_9) := by rw [World.cell?, HX0.out]; rfl
  have y10 : W0.cell? ⟨w.heap.size, 10, none⟩ = some (.bool a0_10) := by rw [World.cell?, HX0.out]; rfl
  have y11 : W0.cell? ⟨w.heap.size, 11, none⟩ = some (.int .i64 a0_11) := by rw [World.cell?, HX0.out]; rfl
  have y12 : W0.cell? ⟨w.heap.size, 12, none⟩ = some (.int .i64 a0_12) := by rw [World.cell?, HX0.out]; rfl
  have y13 : W0.cell? ⟨w.heap.size, 13, none⟩ = some (.int .i64 a0_13) := by rw [World.cell?, HX0.out]; rfl
  have y14 : W0.cell? ⟨w.heap.size, 14, none⟩ = some (.int .i64 a0_14) := by rw [World.cell?, HX0.out]; rfl
  have y15 : W0.cell? ⟨w.heap.size, 15, none⟩ = some (.int .i64 a0_15) := by rw [World.cell?, HX0.out]; rfl
  have y16 : W0.cell? ⟨w.heap.size, 16, none⟩ = some (.int .i64 a0_16) := by rw [World.cell?, HX0.out]; rfl
  have c2 := HW0.out.cell
  have f2 := HW0.out.frozen
  go_enter Try.func13, Try.ntmps13
  go_upto_region 3 with (fail)
  rw [HZ0.out]
  clear HZ0 hst
  go_wp2_with fail
  refine (format_Valid.calls a0_7 a0_8 a0_9 a0_10 a0_11 a0_12 a0_13 a0_14 a0_15 a0_16 false W0 HV.out).mono ?_
  rintro en W1 ⟨rfl, hb⟩
  have HW1 := Lib.hid (HW0.out.below hb)
  have HB1 := Lib.hid (HB0.out.trans (hb.mono HL0.out))
  have HL1 := Lib.hid (Nat.le_trans HL0.out HB1.out.size)
  have HX1 := Lib.hid ((HB1.out.block w.heap.size (by omega)).trans HX0.out)
  have HR1 := Lib.hid (blk_below HR0.out hb)
  have HQ1 := Lib.hid HQ0.out
  clear hb
  clear c2 f2 y0 y7 y8 y9 y10 y11 y12 y13 y14 y15 y16
  have y0 : W1.cell? ⟨w.heap.size, 0, none⟩ = some (.int .i64 a0_0) := by rw [World.cell?, HX1.out]; rfl
  have y7 : W1.cell? ⟨w.heap.size, 7, none⟩ = some (.int .i64 a0_7) := by rw [World.cell?, HX1.out]; rfl
  have y8 : W1.cell? ⟨w.heap.size, 8, none⟩ = some (.int .i64 a0_8) := by rw [World.cell?, HX1.out]; rfl
  have y9 : W1.cell? ⟨w.heap.size, 9, none⟩ = some (.bool a0_9) := by rw [World.cell?, HX1.out]; rfl
  have y10 : W1.cell? ⟨w.heap.size, 10, none⟩ = some (.bool a0_10) := by rw [World.cell?, HX1.out]; rfl
  have y11 : W1.cell? ⟨w.heap.size, 11, none⟩ = some (.int .i64 a0_11) := by rw [World.cell?, HX1.out]; rfl
  have y12 : W1.cell? ⟨w.heap.size, 12, none⟩ = some (.int .i64 a0_12) := by rw [World.cell?, HX1.out]; rfl
  have y13 : W1.cell? ⟨w.heap.size, 13, none⟩ = some (.int .i64 a0_13) := by rw [World.cell?, HX1.out]; rfl
  have y14 : W1.cell? ⟨w.heap.size, 14, none⟩ = some (.int .i64 a0_14) := by rw [World.cell?, HX1.out]; rfl
  have y15 : W1.cell? ⟨w.heap.size, 15, none⟩ = some (.int .i64 a0_15) := by rw [World.cell?, HX1.out]; rfl
  have y16 : W1.cell? ⟨w.heap.size, 16, none⟩ = some (.int .i64 a0_16) := by rw [World.cell?, HX1.out]; rfl
  have c2 := HW1.out.cell
  have f2 := HW1.out.frozen
  go_wp2_with fail
  go_ret2
  exact ⟨rfl, clientmsg_Bytes_low (HBW.out.trans (clientmsg_Bytes_low HB1.out (Nat.le_succ _))) (Nat.le_refl _)⟩
set_option maxHeartbeats 8000000 in
set_option maxRecDepth 100000 in
theorem clientmsg_Bytes_cut (a0_0 : Int) (a0_1 : Bool) (a0_2 : Int) (a0_3 : Int) (a0_4 : Int) (a0_5 : Int) (a0_6 : Int) (a0_7 : Int) (a0_8 : Int) (a0_9 : Bool) (a0_10 : Bool) (a0_11 : Int) (a0_12 : Int) (a0_13 : Int) (a0_14 : Int) (a0_15 : Int) (a0_16 : Int) (A0_17 : Option Addr) (c0_17 : Nat) (l0_17 : List Int) (a0_18 : ByteArray) (r1 : ByteArray) (r2 : Int) (w : World) (hk : a0_0 = 5) (v : Bool) (st st2 : List UInt8 × Bool) (HVV : Hid (decide (4096 < a0_18.size) = v)) (E1 : Hid (wInts 1 [6, 0, 0, 0] ([], v) = some st)) (E2 : Hid (wInts 4 [(a0_18.size : Int)] st = some st2)) (HSZ : Hid (st2.1.length + a0_18.size ≤ 140737488351232)) (HE0 : Hid (endB (st2.1 ++ a0_18.data.toList, st2.2) = (r1, r2))) :
    Calls Try.prog 13 #[.agg #[.int .i64 a0_0, .bool a0_1, .int .i64 a0_2, .int .i64 a0_3, .int .i64 a0_4, .int .i64 a0_5, .int .i64 a0_6, .int .i64 a0_7, .int .i64 a0_8, .bool a0_9, .bool a0_10, .int .i64 a0_11, .int .i64 a0_12, .int .i64 a0_13, .int .i64 a0_14, .int .i64 a0_15, .int .i64 a0_16, .slice A0_17 l0_17.length c0_17, .string a0_18]] w fun e w' => e = .returned (.tuple #[.string r1, .int .i64 r2]) ∧ Below w.heap.size w w' := by
  obtain ⟨W0, hW0⟩ : ∃ W0, ((((w.alloc (.cells #[.int .i64 a0_0, .bool a0_1, .int .i64 a0_2, .int .i64 a0_3, .int .i64 a0_4, .int .i64 a0_5, .int .i64 a0_6, .int .i64 a0_7, .int .i64 a0_8, .bool a0_9, .bool a0_10, .int .i64 a0_11, .int .i64 a0_12, .int .i64 a0_13, .int .i64 a0_14, .int .i64 a0_15, .int .i64 a0_16, .slice A0_17 l0_17.length c0_17, .string a0_18] 30)).alloc (.cells #[.pointer none, .slice none 0 0, .bool false] 67)).alloc (.cells #[.int .i64 0, .int .i64 0, .int .i64 0, .int .i64 0] 25)).setRow (w.heap.size + 1 + 1) #[.int .i64 a0_3, .int .i64 a0_4, .int .i64 a0_5, .int .i64 a0_6]) = W0 := ⟨_, rfl⟩
  have hst : rowAt (((w.alloc (.cells #[.int .i64 a0_0, .bool a0_1, .int .i64 a0_2, .int .i64 a0_3, .int .i64 a0_4, .int .i64 a0_5, .int .i64 a0_6, .int .i64 a0_7, .int .i64 a0_8, .bool a0_9, .bool a0_10, .int .i64 a0_11, .int .i64 a0_12, .int .i64 a0_13, .int .i64 a0_14, .int .i64 a0_15, .int .i64 a0_16, .slice A0_17 l0_17.length c0_17, .string a0_18] 30)).alloc (.cells #[.pointer none, .slice none 0 0, .bool false] 67)).alloc (.cells #[.int .i64 0, .int .i64 0, .int .i64 0, .int .i64 0] 25)) (w.heap.size + 1 + 1) 25 4 = true := by have := rowAt_rect ((w.alloc (.cells #[.int .i64 a0_0, .bool a0_1, .int .i64 a0_2, .int .i64 a0_3, .int .i64 a0_4, .int .i64 a0_5, .int .i64 a0_6, .int .i64 a0_7, .int .i64 a0_8, .bool a0_9, .bool a0_10, .int .i64 a0_11, .int .i64 a0_12, .int .i64 a0_13, .int .i64 a0_14, .int .i64 a0_15, .int .i64 a0_16, .slice A0_17 l0_17.length c0_17, .string a0_18] 30)).alloc (.cells #[.pointer none, .slice none 0 0, .bool false] 67)) #[.int .i64 0, .int .i64 0, .int .i64 0, .int .i64 0] rfl; rwa [World.size_alloc, World.size_alloc] at this
  have hr0 : ((w.alloc (.cells #[.int .i64 a0_0, .bool a0_1, .int .i64 a0_2, .int .i64 a0_3, .int .i64 a0_4, .int .i64 a0_5, .int .i64 a0_6, .int .i64 a0_7, .int .i64 a0_8, .bool a0_9, .bool a0_10, .int .i64 a0_11, .int .i64 a0_12, .int .i64 a0_13, .int .i64 a0_14, .int .i64 a0_15, .int .i64 a0_16, .slice A0_17 l0_17.length c0_17, .string a0_18] 30)).alloc (.cells #[.pointer none, .slice none 0 0, .bool false] 67)).heap.size = w.heap.size + 2 := by simp
  have hq0 := setRow_heap (((w.alloc (.cells #[.int .i64 a0_0, .bool a0_1, .int .i64 a0_2, .int .i64 a0_3, .int .i64 a0_4, .int .i64 a0_5, .int .i64 a0_6, .int .i64 a0_7, .int .i64 a0_8, .bool a0_9, .bool a0_10, .int .i64 a0_11, .int .i64 a0_12, .int .i64 a0_13, .int .i64 a0_14, .int .i64 a0_15, .int .i64 a0_16, .slice A0_17 l0_17.length c0_17, .string a0_18] 30)).alloc (.cells #[.pointer none, .slice none 0 0, .bool false] 67)).alloc (.cells #[.int .i64 0, .int .i64 0, .int .i64 0, .int .i64 0] 25)) (w.heap.size + 2) #[.int .i64 0, .int .i64 0, .int .i64 0, .int .i64 0] #[.int .i64 a0_3, .int .i64 a0_4, .int .i64 a0_5, .int .i64 a0_6] 25 (0, 0) (by have := heap_alloc_new ((w.alloc (.cells #[.int .i64 a0_0, .bool a0_1, .int .i64 a0_2, .int .i64 a0_3, .int .i64 a0_4, .int .i64 a0_5, .int .i64 a0_6, .int .i64 a0_7, .int .i64 a0_8, .bool a0_9, .bool a0_10, .int .i64 a0_11, .int .i64 a0_12, .int .i64 a0_13, .int .i64 a0_14, .int .i64 a0_15, .int .i64 a0_16, .slice A0_17 l0_17.length c0_17, .string a0_18] 30)).alloc (.cells #[.pointer none, .slice none 0 0, .bool false] 67)) (.cells #[.int .i64 0, .int .i64 0, .int .i64 0, .int .i64 0] 25); rw [hr0] at this; exact this)
  have HR0 := Lib.hid (show W0.heap[w.heap.size + 2]? = some (.cells #[.int .i64 a0_3, .int .i64 a0_4, .int .i64 a0_5, .int .i64 a0_6] 25 (0, 0)) from by rw [← hW0]; exact hq0)
  have HX0 := Lib.hid (show W0.heap[w.heap.size]? = some (.cells #[.int .i64 a0_0, .bool a0_1, .int .i64 a0_2, .int .i64 a0_3, .int .i64 a0_4, .int .i64 a0_5, .int .i64 a0_6, .int .i64 a0_7, .int .i64 a0_8, .bool a0_9, .bool a0_10, .int .i64 a0_11, .int .i64 a0_12, .int .i64 a0_13, .int .i64 a0_14, .int .i64 a0_15, .int .i64 a0_16, .slice A0_17 l0_17.length c0_17, .string a0_18] 30 (0, 0)) from by rw [← hW0]; exact (setRow_other _ _ _ _ (by omega)).trans ((Below.heap_alloc _ _ _ (by simp <;> omega)).trans ((Below.heap_alloc _ _ _ (by simp)).trans (heap_alloc_new w _))))
  have HW0 := Lib.hid (show Wr (w.heap.size + 1) (w.heap.size + 1) [] false none W0 from Wr.new (by rw [← hW0]; have h0 := heap_alloc_new (w.alloc (.cells #[.int .i64 a0_0, .bool a0_1, .int .i64 a0_2, .int .i64 a0_3, .int .i64 a0_4, .int .i64 a0_5, .int .i64 a0_6, .int .i64 a0_7, .int .i64 a0_8, .bool a0_9, .bool a0_10, .int .i64 a0_11, .int .i64 a0_12, .int .i64 a0_13, .int .i64 a0_14, .int .i64 a0_15, .int .i64 a0_16, .slice A0_17 l0_17.length c0_17, .string a0_18] 30)) (.cells #[.pointer none, .slice none 0 0, .bool false] 67); rw [World.size_alloc] at h0; exact (setRow_other _ _ _ _ (by omega)).trans ((Below.heap_alloc _ _ _ (by simp)).trans h0)) (Nat.le_refl _))
  have HBW := Lib.hid (show Below w.heap.size w W0 from by rw [← hW0]; exact below_row (below_alloc (below_alloc (below_alloc (Below.refl _ _) _) _) _) (by omega) _)
  have HB0 := Lib.hid (show Below (w.heap.size + 1) W0 W0 from Below.refl _ _)
  have HL0 := Lib.hid (show (w.heap.size + 1) ≤ W0.heap.size from by have := blk_lt HR0.out; omega)
  have HQ0 := Lib.hid (show ∀ q, (none : Option Nat) = some q → w.heap.size + 2 < q from fun q h => by cases h)
  have HZ0 := Lib.hid hW0
  clear hr0 hq0 hW0
  have k0 : (a0_0 == 0) = false := by rw [hk]; rfl
  have k1 : (a0_0 == 1) = false := by rw [hk]; rfl
  have k2 : (a0_0 == 2) = false := by rw [hk]; rfl
  have k3 : (a0_0 == 3) = false := by rw [hk]; rfl
  have k4 : (a0_0 == 4) = false := by rw [hk]; rfl
  have k5 : (a0_0 == 5) = true := by simpa using hk
  clear hk
  have hb1 : decide ((a0_18.size : Int) > 4096) = v := by rw [← HVV.out]; exact decide_eq_decide.2 ⟨fun h => by omega, fun h => by omega⟩
  have hb2 : decide (4096 < a0_18.size) = v := HVV.out
  have hb3 : decide ((4096 : Int) < (a0_18.size : Int)) = v := hb1
  have y0 : W0.cell? ⟨w.heap.size, 0, none⟩ = some (.int .i64 a0_0) := by rw [World.cell?, HX0.out]; rfl
  have y18 : W0.cell? ⟨w.heap.size, 18, none⟩ = some (.string a0_18) := by rw [World.cell?, HX0.out]; rfl
  have c2 := HW0.out.cell
  have f2 := HW0.out.frozen
  go_enter Try.func13, Try.ntmps13
  go_upto_region 3 with (fail)
  rw [HZ0.out]
  clear HZ0 hst
  go_wp2_with fail
  clear hb1 hb2 hb3
  obtain ⟨W1, hW1⟩ : ∃ X, W0.setCell ⟨w.heap.size + 1, 2, none⟩ (.bool v) = X := ⟨_, rfl⟩
  have HW1 := Lib.hid (show Wr (w.heap.size + 1) (w.heap.size + 1) [] v none W1 from by rw [← hW1]; exact HW0.out.set_ v)
  have HB1 := Lib.hid (show Below (w.heap.size + 1) W0 W1 from by rw [← hW1]; exact HB0.out.setCell (p := ⟨w.heap.size + 1, 2, none⟩) (Nat.le_refl _) _)
  have HL1 := Lib.hid (Nat.le_trans HL0.out HB1.out.size)
  have HX1 := Lib.hid ((HB1.out.block w.heap.size (by omega)).trans HX0.out)
  have HR1 := Lib.hid (show W1.heap[w.heap.size + 2]? = some (.cells #[.int .i64 a0_3, .int .i64 a0_4, .int .i64 a0_5, .int .i64 a0_6] 25 (0, 0)) from by rw [← hW1]; exact blk_far HR0.out (by show w.heap.size + 2 ≠ w.heap.size + 1; omega) _)
  have HQ1 := Lib.hid HQ0.out
  have hsz : W0.heap.size = W1.heap.size := by rw [← hW1]; simp
  try rw [hW1]
  try rw [hsz]
  clear hW1 hsz
  clear c2 f2 y0 y18
  have y0 : W1.cell? ⟨w.heap.size, 0, none⟩ = some (.int .i64 a0_0) := by rw [World.cell?, HX1.out]; rfl
  have y18 : W1.cell? ⟨w.heap.size, 18, none⟩ = some (.string a0_18) := by rw [World.cell?, HX1.out]; rfl
  have c2 := HW1.out.cell
  have f2 := HW1.out.frozen
  refine (ints_c (w.heap.size + 1) (w.heap.size + 1) [] v none 1 (some ⟨W1.heap.size, 0, none⟩) 4 [6, 0, 0, 0] st _ (HW1.out.below (below_alloc (Below.refl _ _) _)) (by have := HL1.out; simp; omega) (by simp) (fresh_row [6, 0, 0, 0] (by simp) HW1.out.lt (fun k hk => (HW1.out.row_ k hk).2) _ rfl) E1.out).mono ?_
  rintro en W2 ⟨rfl, row2, h1, h2, h3, h4⟩
  have HW2 := Lib.hid h1
  have HB2 := Lib.hid (HB1.out.trans ((below_alloc (Below.refl W1.heap.size W1) _).mono HL1.out |>.trans h3))
  have HL2 := Lib.hid (Nat.le_trans HL0.out HB2.out.size)
  have HX2 := Lib.hid ((HB2.out.block w.heap.size (by omega)).trans HX0.out)
  have HR2 := Lib.hid (clientmsg_Bytes_row (row1 := none) (blk_alloc HR1.out _) h4 (by omega) HQ1.out)
  have HQ2 := Lib.hid (clientmsg_Bytes_q (g := w.heap.size + 2) HQ1.out (by have := blk_lt HR1.out; simp; omega) h2)
  clear h1 h2 h3 h4
  clear c2 f2 y0 y18
  have y0 : W2.cell? ⟨w.heap.size, 0, none⟩ = some (.int .i64 a0_0) := by rw [World.cell?, HX2.out]; rfl
  have y18 : W2.cell? ⟨w.heap.size, 18, none⟩ = some (.string a0_18) := by rw [World.cell?, HX2.out]; rfl
  have c2 := HW2.out.cell
  have f2 := HW2.out.frozen
  go_wp2_with fail
  refine (ints_c (w.heap.size + 1) (w.heap.size + 1) st.1 st.2 row2 4 (some ⟨W2.heap.size, 0, none⟩) 1 [(a0_18.size : Int)] st2 _ (HW2.out.below (below_alloc (Below.refl _ _) _)) (by have := HL2.out; simp; omega) (by simp) (fresh_row [(a0_18.size : Int)] (by simp) HW2.out.lt (fun k hk => (HW2.out.row_ k hk).2) _ rfl) E2.out).mono ?_
  rintro en W3 ⟨rfl, row3, h1, h2, h3, h4⟩
  have HW3 := Lib.hid h1
  have HB3 := Lib.hid (HB2.out.trans ((below_alloc (Below.refl W2.heap.size W2) _).mono HL2.out |>.trans h3))
  have HL3 := Lib.hid (Nat.le_trans HL0.out HB3.out.size)
  have HX3 := Lib.hid ((HB3.out.block w.heap.size (by omega)).trans HX0.out)
  have HR3 := Lib.hid (clientmsg_Bytes_row (row1 := none) (blk_alloc HR2.out _) h4 (by omega) HQ2.out)
  have HQ3 := Lib.hid (clientmsg_Bytes_q (g := w.heap.size + 2) HQ2.out (by have := blk_lt HR2.out; simp; omega) h2)
  clear h1 h2 h3 h4
  clear c2 f2 y0 y18
  have y0 : W3.cell? ⟨w.heap.size, 0, none⟩ = some (.int .i64 a0_0) := by rw [World.cell?, HX3.out]; rfl
  have y18 : W3.cell? ⟨w.heap.size, 18, none⟩ = some (.string a0_18) := by rw [World.cell?, HX3.out]; rfl
  have c2 := HW3.out.cell
  have f2 := HW3.out.frozen
  go_wp2_with fail
  refine (write_c (w.heap.size + 1) (w.heap.size + 1) st2.1 st2.2 row3 a0_18 W3 HW3.out (by have := HSZ.out; omega) HL3.out).mono ?_
  rintro en W4 ⟨rfl, row4, h1, h2, h3, h4⟩
  have HW4 := Lib.hid h1
  have HB4 := Lib.hid (HB3.out.trans (h3))
  have HL4 := Lib.hid (Nat.le_trans HL0.out HB4.out.size)
  have HX4 := Lib.hid ((HB4.out.block w.heap.size (by omega)).trans HX0.out)
  have HR4 := Lib.hid (clientmsg_Bytes_row (row1 := none) (HR3.out) h4 (by omega) HQ3.out)
  have HQ4 := Lib.hid (clientmsg_Bytes_q (g := w.heap.size + 2) HQ3.out (blk_lt HR3.out) h2)
  clear h1 h2 h3 h4
  clear c2 f2 y0 y18
  have y0 : W4.cell? ⟨w.heap.size, 0, none⟩ = some (.int .i64 a0_0) := by rw [World.cell?, HX4.out]; rfl
  have y18 : W4.cell? ⟨w.heap.size, 18, none⟩ = some (.string a0_18) := by rw [World.cell?, HX4.out]; rfl
  have c2 := HW4.out.cell
  have f2 := HW4.out.frozen
  obtain ⟨er, her⟩ : ∃ er, st2.2 = er := ⟨_, rfl⟩
  have HE := Lib.hid (show endB ((st2.1 ++ a0_18.data.toList), er) = (r1, r2) from by rw [← her]; exact HE0.out)
  have HWe := Lib.hid (show Wr (w.heap.size + 1) (w.heap.size + 1) (st2.1 ++ a0_18.data.toList) er row4 W4 from by rw [← her]; exact HW4.out)
  rw [her] at c2
  clear her
  cases er with
  | true =>
    obtain ⟨rfl, rfl⟩ : (⟨#[]⟩ : ByteArray) = r1 ∧ (1 : Int) = r2 := Prod.mk.inj ((if_pos rfl).symm.trans HE.out)
    go_wp2_with fail
    go_ret2
    exact ⟨rfl, clientmsg_Bytes_low (HBW.out.trans (clientmsg_Bytes_low HB4.out (Nat.le_succ _))) (Nat.le_refl _)⟩
  | false =>
    obtain ⟨rfl, rfl⟩ : (⟨((st2.1 ++ a0_18.data.toList)).toArray⟩ : ByteArray) = r1 ∧ (0 : Int) = r2 := Prod.mk.inj ((if_neg (show ¬ (false = true) by decide)).symm.trans HE.out)
    go_wp2_with fail
    obtain ⟨cs, hbat, _, _⟩ := HWe.out
    refine (BL.String_c _ (w.heap.size + 1) (w.heap.size + 1) 0 cs row4 _ W4 hbat HL4.out).mono ?_
    rintro en Wz ⟨rfl, h3⟩
    have HBz := Lib.hid (HBW.out.trans (clientmsg_Bytes_low (HB4.out.trans h3) (Nat.le_succ _)))
    clear h3 hbat
    go_wp2_with fail
    go_ret2
    exact ⟨rfl, HBz.out⟩
set_option maxHeartbeats 8000000 in
set_option maxRecDepth 100000 in
theorem clientmsg_Bytes_none (a0_0 : Int) (a0_1 : Bool) (a0_2 : Int) (a0_3 : Int) (a0_4 : Int) (a0_5 : Int) (a0_6 : Int) (a0_7 : Int) (a0_8 : Int) (a0_9 : Bool) (a0_10 : Bool) (a0_11 : Int) (a0_12 : Int) (a0_13 : Int) (a0_14 : Int) (a0_15 : Int) (a0_16 : Int) (A0_17 : Option Addr) (c0_17 : Nat) (l0_17 : List Int) (a0_18 : ByteArray) (r1 : ByteArray) (r2 : Int) (w : World) (hr1 : r1 = ⟨#[]⟩) (hr2 : r2 = 1) (hk0 : ¬ a0_0 = 0) (hk1 : ¬ a0_0 = 1) (hk2 : ¬ a0_0 = 2) (hk3 : ¬ a0_0 = 3) (hk4 : ¬ a0_0 = 4) (hk5 : ¬ a0_0 = 5) :
    Calls Try.prog 13 #[.agg #[.int .i64 a0_0, .bool a0_1, .int .i64 a0_2, .int .i64 a0_3, .int .i64 a0_4, .int .i64 a0_5, .int .i64 a0_6, .int .i64 a0_7, .int .i64 a0_8, .bool a0_9, .bool a0_10, .int .i64 a0_11, .int .i64 a0_12, .int .i64 a0_13, .int .i64 a0_14, .int .i64 a0_15, .int .i64 a0_16, .slice A0_17 l0_17.length c0_17, .string a0_18]] w fun e w' => e = .returned (.tuple #[.string r1, .int .i64 r2]) ∧ Below w.heap.size w w' := by
  obtain ⟨W0, hW0⟩ : ∃ W0, ((((w.alloc (.cells #[.int .i64 a0_0, .bool a0_1, .int .i64 a0_2, .int .i64 a0_3, .int .i64 a0_4, .int .i64 a0_5, .int .i64 a0_6, .int .i64 a0_7, .int .i64 a0_8, .bool a0_9, .bool a0_10, .int .i64 a0_11, .int .i64 a0_12, .int .i64 a0_13, .int .i64 a0_14, .int .i64 a0_15, .int .i64 a0_16, .slice A0_17 l0_17.length c0_17, .string a0_18] 30)).alloc (.cells #[.pointer none, .slice none 0 0, .bool false] 67)).alloc (.cells #[.int .i64 0, .int .i64 0, .int .i64 0, .int .i64 0] 25)).setRow (w.heap.size + 1 + 1) #[.int .i64 a0_3, .int .i64 a0_4, .int .i64 a0_5, .int .i64 a0_6]) = W0 := ⟨_, rfl⟩
  have hst : rowAt (((w.alloc (.cells #[.int .i64 a0_0, .bool a0_1, .int .i64 a0_2, .int .i64 a0_3, .int .i64 a0_4, .int .i64 a0_5, .int .i64 a0_6, .int .i64 a0_7, .int .i64 a0_8, .bool a0_9, .bool a0_10, .int .i64 a0_11, .int .i64 a0_12, .int .i64 a0_13, .int .i64 a0_14, .int .i64 a0_15, .int .i64 a0_16, .slice A0_17 l0_17.length c0_17, .string a0_18] 30)).alloc (.cells #[.pointer none, .slice none 0 0, .bool false] 67)).alloc (.cells #[.int .i64 0, .int .i64 0, .int .i64 0, .int .i64 0] 25)) (w.heap.size + 1 + 1) 25 4 = true := by have := rowAt_rect ((w.alloc (.cells #[.int .i64 a0_0, .bool a0_1, .int .i64 a0_2, .int .i64 a0_3, .int .i64 a0_4, .int .i64 a0_5, .int .i64 a0_6, .int .i64 a0_7, .int .i64 a0_8, .bool a0_9, .bool a0_10, .int .i64 a0_11, .int .i64 a0_12, .int .i64 a0_13, .int .i64 a0_14, .int .i64 a0_15, .int .i64 a0_16, .slice A0_17 l0_17.length c0_17, .string a0_18] 30)).alloc (.cells #[.pointer none, .slice none 0 0, .bool false] 67)) #[.int .i64 0, .int .i64 0, .int .i64 0, .int .i64 0] rfl; rwa [World.size_alloc, World.size_alloc] at this
  have hr0 : ((w.alloc (.cells #[.int .i64 a0_0, .bool a0_1, .int .i64 a0_2, .int .i64 a0_3, .int .i64 a0_4, .int .i64 a0_5, .int .i64 a0_6, .int .i64 a0_7, .int .i64 a0_8, .bool a0_9, .bool a0_10, .int .i64 a0_11, .int .i64 a0_12, .int .i64 a0_13, .int .i64 a0_14, .int .i64 a0_15, .int .i64 a0_16, .slice A0_17 l0_17.length c0_17, .string a0_18] 30)).alloc (.cells #[.pointer none, .slice none 0 0, .bool false] 67)).heap.size = w.heap.size + 2 := by simp
  have hq0 := setRow_heap (((w.alloc (.cells #[.int .i64 a0_0, .bool a0_1, .int .i64 a0_2, .int .i64 a0_3, .int .i64 a0_4, .int .i64 a0_5, .int .i64 a0_6, .int .i64 a0_7, .int .i64 a0_8, .bool a0_9, .bool a0_10, .int .i64 a0_11, .int .i64 a0_12, .int .i64 a0_13, .int .i64 a0_14, .int .i64 a0_15, .int .i64 a0_16, .slice A0_17 l0_17.length c0_17, .string a0_18] 30)).alloc (.cells #[.pointer none, .slice none 0 0, .bool false] 67)).alloc (.cells #[.int .i64 0, .int .i64 0, .int .i64 0, .int .i64 0] 25)) (w.heap.size + 2) #[.int .i64 0, .int .i64 0, .int .i64 0, .int .i64 0] #[.int .i64 a0_3, .int .i64 a0_4, .int .i64 a0_5, .int .i64 a0_6] 25 (0, 0) (by have := heap_alloc_new ((w.alloc (.cells #[.int .i64 a0_0, .bool a0_1, .int .i64 a0_2, .int .i64 a0_3, .int .i64 a0_4, .int .i64 a0_5, .int .i64 a0_6, .int .i64 a0_7, .int .i64 a0_8, .bool a0_9, .bool a0_10, .int .i64 a0_11, .int .i64 a0_12, .int .i64 a0_13, .int .i64 a0_14, .int .i64 a0_15, .int .i64 a0_16, .slice A0_17 l0_17.length c0_17, .string a0_18] 30)).alloc (.cells #[.pointer none, .slice none 0 0, .bool false] 67)) (.cells #[.int .i64 0, .int .i64 0, .int .i64 0, .int .i64 0] 25); rw [hr0] at this; exact this)
  have HR0 := Lib.hid (show W0.heap[w.heap.size + 2]? = some (.cells #[.int .i64 a0_3, .int .i64 a0_4, .int .i64 a0_5, .int .i64 a0_6] 25 (0, 0)) from by rw [← hW0]; exact hq0)
  have HX0 := Lib.hid (show W0.heap[w.heap.size]? = some (.cells #[.int .i64 a0_0, .bool a0_1, .int .i64 a0_2, .int .i64 a0_3, .int .i64 a0_4, .int .i64 a0_5, .int .i64 a0_6, .int .i64 a0_7, .int .i64 a0_8, .bool a0_9, .bool a0_10, .int .i64 a0_11, .int .i64 a0_12, .int .i64 a0_13, .int .i64 a0_14, .int .i64 a0_15, .int .i64 a0_16, .slice A0_17 l0_17.length c0_17, .string a0_18] 30 (0, 0)) from by rw [← hW0]; exact (setRow_other _ _ _ _ (by omega)).trans ((Below.heap_alloc _ _ _ (by simp <;> omega)).trans ((Below.heap_alloc _ _ _ (by simp)).trans (heap_alloc_new w _))))
  have HW0 := Lib.hid (show Wr (w.heap.size + 1) (w.heap.size + 1) [] false none W0 from Wr.new (by rw [← hW0]; have h0 := heap_alloc_new (w.alloc (.cells #[.int .i64 a0_0, .bool a0_1, .int .i64 a0_2, .int .i64 a0_3, .int .i64 a0_4, .int .i64 a0_5, .int .i64 a0_6, .int .i64 a0_7, .int .i64 a0_8, .bool a0_9, .bool a0_10, .int .i64 a0_11, .int .i64 a0_12, .int .i64 a0_13, .int .i64 a0_14, .int .i64 a0_15, .int .i64 a0_16, .slice A0_17 l0_17.length c0_17, .string a0_18] 30)) (.cells #[.pointer none, .slice none 0 0, .bool false] 67); rw [World.size_alloc] at h0; exact (setRow_other _ _ _ _ (by omega)).trans ((Below.heap_alloc _ _ _ (by simp)).trans h0)) (Nat.le_refl _))
  have HBW := Lib.hid (show Below w.heap.size w W0 from by rw [← hW0]; exact below_row (below_alloc (below_alloc (below_alloc (Below.refl _ _) _) _) _) (by omega) _)
  have HB0 := Lib.hid (show Below (w.heap.size + 1) W0 W0 from Below.refl _ _)
  have HL0 := Lib.hid (show (w.heap.size + 1) ≤ W0.heap.size from by have := blk_lt HR0.out; omega)
  have HQ0 := Lib.hid (show ∀ q, (none : Option Nat) = some q → w.heap.size + 2 < q from fun q h => by cases h)
  have HZ0 := Lib.hid hW0
  clear hr0 hq0 hW0
  subst hr1 hr2
  have k0 : (a0_0 == 0) = false := by simpa using hk0
  have k1 : (a0_0 == 1) = false := by simpa using hk1
  have k2 : (a0_0 == 2) = false := by simpa using hk2
  have k3 : (a0_0 == 3) = false := by simpa using hk3
  have k4 : (a0_0 == 4) = false := by simpa using hk4
  have k5 : (a0_0 == 5) = false := by simpa using hk5
  clear hk0 hk1 hk2 hk3 hk4 hk5
  have y0 : W0.cell? ⟨w.heap.size, 0, none⟩ = some (.int .i64 a0_0) := by rw [World.cell?, HX0.out]; rfl
  have c2 := HW0.out.cell
  have f2 := HW0.out.frozen
  go_enter Try.func13, Try.ntmps13
  go_upto_region 3 with (fail)
  rw [HZ0.out]
  clear HZ0 hst
  go_wp2_with fail
  go_ret2
  exact ⟨rfl, clientmsg_Bytes_low (HBW.out.trans (clientmsg_Bytes_low ((Below.refl (w.heap.size + 1) W0).setCell (p := ⟨w.heap.size + 1, 2, none⟩) (Nat.le_refl _) _) (Nat.le_succ _))) (Nat.le_refl _)⟩
set_option maxHeartbeats 8000000 in
set_option maxRecDepth 100000 in
theorem clientmsg_Bytes_encs (a0_0 : Int) (a0_1 : Bool) (a0_2 : Int) (a0_3 : Int) (a0_4 : Int) (a0_5 : Int) (a0_6 : Int) (a0_7 : Int) (a0_8 : Int) (a0_9 : Bool) (a0_10 : Bool) (a0_11 : Int) (a0_12 : Int) (a0_13 : Int) (a0_14 : Int) (a0_15 : Int) (a0_16 : Int) (A0_17 : Option Addr) (c0_17 : Nat) (l0_17 : List Int) (a0_18 : ByteArray) (r1 : ByteArray) (r2 : Int) (w : World) (hk : a0_0 = 1) (hlen : l0_17.length ≤ 1000000000000) (v : Bool) (st st2 st3 : List UInt8 × Bool) (HC : Hid (Kd.C (Kd.int .i64) w A0_17 l0_17.length l0_17)) (HVV : Hid (decide (256 < l0_17.length) = v)) (E1 : Hid (wInts 1 [2, 0] ([], v) = some st)) (E2 : Hid (wInts 2 [(l0_17.length : Int)] st = some st2)) (E3 : Hid (wSs l0_17 st2 = some st3)) (HE0 : Hid (endB st3 = (r1, r2))) :
    Calls Try.prog 13 #[.agg #[.int .i64 a0_0, .bool a0_1, .int .i64 a0_2, .int .i64 a0_3, .int .i64 a0_4, .int .i64 a0_5, .int .i64 a0_6, .int .i64 a0_7, .int .i64 a0_8, .bool a0_9, .bool a0_10, .int .i64 a0_11, .int .i64 a0_12, .int .i64 a0_13, .int .i64 a0_14, .int .i64 a0_15, .int .i64 a0_16, .slice A0_17 l0_17.length c0_17, .string a0_18]] w fun e w' => e = .returned (.tuple #[.string r1, .int .i64 r2]) ∧ Below w.heap.size w w' := by
  obtain ⟨W0, hW0⟩ : ∃ W0, ((((w.alloc (.cells #[.int .i64 a0_0, .bool a0_1, .int .i64 a0_2, .int .i64 a0_3, .int .i64 a0_4, .int .i64 a0_5, .int .i64 a0_6, .int .i64 a0_7, .int .i64 a0_8, .bool a0_9, .bool a0_10, .int .i64 a0_11, .int .i64 a0_12, .int .i64 a0_13, .int .i64 a0_14, .int .i64 a0_15, .int .i64 a0_16, .slice A0_17 l0_17.length c0_17, .string a0_18] 30)).alloc (.cells #[.pointer none, .slice none 0 0, .bool false] 67)).alloc (.cells #[.int .i64 0, .int .i64 0, .int .i64 0, .int .i64 0] 25)).setRow (w.heap.size + 1 + 1) #[.int .i64 a0_3, .int .i64 a0_4, .int .i64 a0_5, .int .i64 a0_6]) = W0 := ⟨_, rfl⟩
  have hst : rowAt (((w.alloc (.cells #[.int .i64 a0_0, .bool a0_1, .int .i64 a0_2, .int .i64 a0_3, .int .i64 a0_4, .int .i64 a0_5, .int .i64 a0_6, .int .i64 a0_7, .int .i64 a0_8, .bool a0_9, .bool a0_10, .int .i64 a0_11, .int .i64 a0_12, .int .i64 a0_13, .int .i64 a0_14, .int .i64 a0_15, .int .i64 a0_16, .slice A0_17 l0_17.length c0_17, .string a0_18] 30)).alloc (.cells #[.pointer none, .slice none 0 0, .bool false] 67)).alloc (.cells #[.int .i64 0, .int .i64 0, .int .i64 0, .int .i64 0] 25)) (w.heap.size + 1 + 1) 25 4 = true := by have := rowAt_rect ((w.alloc (.cells #[.int .i64 a0_0, .bool a0_1, .int .i64 a0_2, .int .i64 a0_3, .int .i64 a0_4, .int .i64 a0_5, .int .i64 a0_6, .int .i64 a0_7, .int .i64 a0_8, .bool a0_9, .bool a0_10, .int .i64 a0_11, .int .i64 a0_12, .int .i64 a0_13, .int .i64 a0_14, .int .i64 a0_15, .int .i64 a0_16, .slice A0_17 l0_17.length c0_17, .string a0_18] 30)).alloc (.cells #[.pointer none, .slice none 0 0, .bool false] 67)) #[.int .i64 0, .int .i64 0, .int .i64 0, .int .i64 0] rfl; rwa [World.size_alloc, World.size_alloc] at this
  have hr0 : ((w.alloc (.cells #[.int .i64 a0_0, .bool a0_1, .int .i64 a0_2, .int .i64 a0_3, .int .i64 a0_4, .int .i64 a0_5, .int .i64 a0_6, .int .i64 a0_7, .int .i64 a0_8, .bool a0_9, .bool a0_10, .int .i64 a0_11, .int .i64 a0_12, .int .i64 a0_13, .int .i64 a0_14, .int .i64 a0_15, .int .i64 a0_16, .slice A0_17 l0_17.length c0_17, .string a0_18] 30)).alloc (.cells #[.pointer none, .slice none 0 0, .bool false] 67)).heap.size = w.heap.size + 2 := by simp
  have hq0 := setRow_heap (((w.alloc (.cells #[.int .i64 a0_0, .bool a0_1, .int .i64 a0_2, .int .i64 a0_3, .int .i64 a0_4, .int .i64 a0_5, .int .i64 a0_6, .int .i64 a0_7, .int .i64 a0_8, .bool a0_9, .bool a0_10, .int .i64 a0_11, .int .i64 a0_12, .int .i64 a0_13, .int .i64 a0_14, .int .i64 a0_15, .int .i64 a0_16, .slice A0_17 l0_17.length c0_17, .string a0_18] 30)).alloc (.cells #[.pointer none, .slice none 0 0, .bool false] 67)).alloc (.cells #[.int .i64 0, .int .i64 0, .int .i64 0, .int .i64 0] 25)) (w.heap.size + 2) #[.int .i64 0, .int .i64 0, .int .i64 0, .int .i64 0] #[.int .i64 a0_3, .int .i64 a0_4, .int .i64 a0_5, .int .i64 a0_6] 25 (0, 0) (by have := heap_alloc_new ((w.alloc (.cells #[.int .i64 a0_0, .bool a0_1, .int .i64 a0_2, .int .i64 a0_3, .int .i64 a0_4, .int .i64 a0_5, .int .i64 a0_6, .int .i64 a0_7, .int .i64 a0_8, .bool a0_9, .bool a0_10, .int .i64 a0_11, .int .i64 a0_12, .int .i64 a0_13, .int .i64 a0_14, .int .i64 a0_15, .int .i64 a0_16, .slice A0_17 l0_17.length c0_17, .string a0_18] 30)).alloc (.cells #[.pointer none, .slice none 0 0, .bool false] 67)) (.cells #[.int .i64 0, .int .i64 0, .int .i64 0, .int .i64 0] 25); rw [hr0] at this; exact this)
  have HR0 := Lib.hid (show W0.heap[w.heap.size + 2]? = some (.cells #[.int .i64 a0_3, .int .i64 a0_4, .int .i64 a0_5, .int .i64 a0_6] 25 (0, 0)) from by rw [← hW0]; exact hq0)
  have HX0 := Lib.hid (show W0.heap[w.heap.size]? = some (.cells #[.int .i64 a0_0, .bool a0_1, .int .i64 a0_2, .int .i64 a0_3, .int .i64 a0_4, .int .i64 a0_5, .int .i64 a0_6, .int .i64 a0_7, .int .i64 a0_8, .bool a0_9, .bool a0_10, .int .i64 a0_11, .int .i64 a0_12, .int .i64 a0_13, .int .i64 a0_14, .int .i64 a0_15, .int .i64 a0_16, .slice A0_17 l0_17.length c0_17, .string a0_18] 30 (0, 0)) from by rw [← hW0]; exact (setRow_other _ _ _ _ (by omega)).trans ((Below.heap_alloc _ _ _ (by simp <;> omega)).trans ((Below.heap_alloc _ _ _ (by simp)).trans (heap_alloc_new w _))))
  have HW0 := Lib.hid (show Wr (w.heap.size + 1) (w.heap.size + 1) [] false none W0 from Wr.new (by rw [← hW0]; have h0 := heap_alloc_new (w.alloc (.cells #[.int .i64 a0_0, .bool a0_1, .int .i64 a0_2, .int .i64 a0_3, .int .i64 a0_4, .int .i64 a0_5, .int .i64 a0_6, .int .i64 a0_7, .int .i64 a0_8, .bool a0_9, .bool a0_10, .int .i64 a0_11, .int .i64 a0_12, .int .i64 a0_13, .int .i64 a0_14, .int .i64 a0_15, .int .i64 a0_16, .slice A0_17 l0_17.length c0_17, .string a0_18] 30)) (.cells #[.pointer none, .slice none 0 0, .bool false] 67); rw [World.size_alloc] at h0; exact (setRow_other _ _ _ _ (by omega)).trans ((Below.heap_alloc _ _ _ (by simp)).trans h0)) (Nat.le_refl _))
  have HBW := Lib.hid (show Below w.heap.size w W0 from by rw [← hW0]; exact below_row (below_alloc (below_alloc (below_alloc (Below.refl _ _) _) _) _) (by omega) _)
  have HB0 := Lib.hid (show Below (w.heap.size + 1) W0 W0 from Below.refl _ _)
  have HL0 := Lib.hid (show (w.heap.size + 1) ≤ W0.heap.size from by have := blk_lt HR0.out; omega)
  have HQ0 := Lib.hid (show ∀ q, (none : Option Nat) = some q → w.heap.size + 2 < q from fun q h => by cases h)
  have HZ0 := Lib.hid hW0
  clear hr0 hq0 hW0
  have k0 : (a0_0 == 0) = false := by rw [hk]; rfl
  have k1 : (a0_0 == 1) = true := by simpa using hk
  clear hk
  have hb1 : decide ((l0_17.length : Int) > 256) = v := by rw [← HVV.out]; exact decide_eq_decide.2 ⟨fun h => by omega, fun h => by omega⟩
  have hb2 : decide (256 < l0_17.length) = v := HVV.out
  have hb3 : decide ((256 : Int) < (l0_17.length : Int)) = v := hb1
  have y0 : W0.cell? ⟨w.heap.size, 0, none⟩ = some (.int .i64 a0_0) := by rw [World.cell?, HX0.out]; rfl
  have y17 : W0.cell? ⟨w.heap.size, 17, none⟩ = some (.slice A0_17 l0_17.length c0_17) := by rw [World.cell?, HX0.out]; rfl
  have c2 := HW0.out.cell
  have f2 := HW0.out.frozen
  go_enter Try.func13, Try.ntmps13
  go_upto_region 3 with (fail)
  rw [HZ0.out]
  clear HZ0 hst
  go_wp2_with fail
  clear hb1 hb2 hb3
  obtain ⟨W1, hW1⟩ : ∃ X, W0.setCell ⟨w.heap.size + 1, 2, none⟩ (.bool v) = X := ⟨_, rfl⟩
  have HW1 := Lib.hid (show Wr (w.heap.size + 1) (w.heap.size + 1) [] v none W1 from by rw [← hW1]; exact HW0.out.set_ v)
  have HB1 := Lib.hid (show Below (w.heap.size + 1) W0 W1 from by rw [← hW1]; exact HB0.out.setCell (p := ⟨w.heap.size + 1, 2, none⟩) (Nat.le_refl _) _)
  have HL1 := Lib.hid (Nat.le_trans HL0.out HB1.out.size)
  have HX1 := Lib.hid ((HB1.out.block w.heap.size (by omega)).trans HX0.out)
  have HR1 := Lib.hid (show W1.heap[w.heap.size + 2]? = some (.cells #[.int .i64 a0_3, .int .i64 a0_4, .int .i64 a0_5, .int .i64 a0_6] 25 (0, 0)) from by rw [← hW1]; exact blk_far HR0.out (by show w.heap.size + 2 ≠ w.heap.size + 1; omega) _)
  have HQ1 := Lib.hid HQ0.out
  have hsz : W0.heap.size = W1.heap.size := by rw [← hW1]; simp
  try rw [hW1]
  try rw [hsz]
  clear hW1 hsz
  clear c2 f2 y0 y17
  have y0 : W1.cell? ⟨w.heap.size, 0, none⟩ = some (.int .i64 a0_0) := by rw [World.cell?, HX1.out]; rfl
  have y17 : W1.cell? ⟨w.heap.size, 17, none⟩ = some (.slice A0_17 l0_17.length c0_17) := by rw [World.cell?, HX1.out]; rfl
  have c2 := HW1.out.cell
  have f2 := HW1.out.frozen
  refine (ints_c (w.heap.size + 1) (w.heap.size + 1) [] v none 1 (some ⟨W1.heap.size, 0, none⟩) 2 [2, 0] st _ (HW1.out.below (below_alloc (Below.refl _ _) _)) (by have := HL1.out; simp; omega) (by simp) (fresh_row [2, 0] (by simp) HW1.out.lt (fun k hk => (HW1.out.row_ k hk).2) _ rfl) E1.out).mono ?_
  rintro en W2 ⟨rfl, row2, h1, h2, h3, h4⟩
  have HW2 := Lib.hid h1
  have HB2 := Lib.hid (HB1.out.trans ((below_alloc (Below.refl W1.heap.size W1) _).mono HL1.out |>.trans h3))
  have HL2 := Lib.hid (Nat.le_trans HL0.out HB2.out.size)
  have HX2 := Lib.hid ((HB2.out.block w.heap.size (by omega)).trans HX0.out)
  have HR2 := Lib.hid (clientmsg_Bytes_row (row1 := none) (blk_alloc HR1.out _) h4 (by omega) HQ1.out)
  have HQ2 := Lib.hid (clientmsg_Bytes_q (g := w.heap.size + 2) HQ1.out (by have := blk_lt HR1.out; simp; omega) h2)
  clear h1 h2 h3 h4
  clear c2 f2 y0 y17
  have y0 : W2.cell? ⟨w.heap.size, 0, none⟩ = some (.int .i64 a0_0) := by rw [World.cell?, HX2.out]; rfl
  have y17 : W2.cell? ⟨w.heap.size, 17, none⟩ = some (.slice A0_17 l0_17.length c0_17) := by rw [World.cell?, HX2.out]; rfl
  have c2 := HW2.out.cell
  have f2 := HW2.out.frozen
  go_wp2_with fail
  refine (ints_c (w.heap.size + 1) (w.heap.size + 1) st.1 st.2 row2 2 (some ⟨W2.heap.size, 0, none⟩) 1 [(l0_17.length : Int)] st2 _ (HW2.out.below (below_alloc (Below.refl _ _) _)) (by have := HL2.out; simp; omega) (by simp) (fresh_row [(l0_17.length : Int)] (by simp) HW2.out.lt (fun k hk => (HW2.out.row_ k hk).2) _ rfl) E2.out).mono ?_
  rintro en W3 ⟨rfl, row3, h1, h2, h3, h4⟩
  have HW3 := Lib.hid h1
  have HB3 := Lib.hid (HB2.out.trans ((below_alloc (Below.refl W2.heap.size W2) _).mono HL2.out |>.trans h3))
  have HL3 := Lib.hid (Nat.le_trans HL0.out HB3.out.size)
  have HX3 := Lib.hid ((HB3.out.block w.heap.size (by omega)).trans HX0.out)
  have HR3 := Lib.hid (clientmsg_Bytes_row (row1 := none) (blk_alloc HR2.out _) h4 (by omega) HQ2.out)
  have HQ3 := Lib.hid (clientmsg_Bytes_q (g := w.heap.size + 2) HQ2.out (by have := blk_lt HR2.out; simp; omega) h2)
  clear h1 h2 h3 h4
  clear c2 f2 y0 y17
  have y0 : W3.cell? ⟨w.heap.size, 0, none⟩ = some (.int .i64 a0_0) := by rw [World.cell?, HX3.out]; rfl
  have y17 : W3.cell? ⟨w.heap.size, 17, none⟩ = some (.slice A0_17 l0_17.length c0_17) := by rw [World.cell?, HX3.out]; rfl
  have c2 := HW3.out.cell
  have f2 := HW3.out.frozen
  go_wp2_with fail
  clear c2 f2 y0 y17
  go_loopw [43] (fun i wr => ∃ (j : Nat) (a1 : List UInt8) (e1 : Bool) (row1 : Option Nat), j ≤ l0_17.length ∧ i = .int .i64 j ∧ Hid (Wr (w.heap.size + 1) (w.heap.size + 1) a1 e1 row1 wr) ∧ Hid (wSs (l0_17.drop j) (a1, e1) = some st3) ∧ Hid (Below (w.heap.size + 1) W0 wr)) (fun i _ => l0_17.length - (intOf i).toNat)
  case atStart => exact ⟨0, st2.1, st2.2, row3, Nat.zero_le _, rfl, HW3, E3, HB3⟩
  case round =>
    obtain ⟨j, a1, e1, row1, hj, rfl, HWr, HRr, HBr⟩ := hrel
    have HLr := Lib.hid (Nat.le_trans HL0.out HBr.out.size)
    by_cases hlt : j < l0_17.length
    · obtain ⟨ad, rfl, hxc⟩ := (Kd.reads_of_C (d := 0) HC.out).at_ (j : Int) (by omega) (by omega)
      rw [Int.toNat_natCast] at hxc
      have hxc := pw_cell_below (HBW.out.trans (clientmsg_Bytes_low HBr.out (Nat.le_succ _))) hxc
      have hd := HRr.out
      rw [List.drop_eq_getElem_cons hlt] at hd
      have hxe : rdOf (0 : Int) l0_17 (j : Int) = l0_17[j] := by simp [rdOf, List.getD, hlt]
      rw [hxe] at hxc
      clear hxe
      generalize l0_17[j] = x at *
      simp only [wSs] at hd
      obtain ⟨⟨a2, e2⟩, hwS, hd⟩ := Option.bind_eq_some_iff.1 hd
      have HS := Lib.hid hwS
      have HD := Lib.hid hd
      clear hwS hd
      have j0 : (0 : Int) ≤ (j : Int) := by omega
      have j1 : (j : Int) < (l0_17.length : Int) := by omega
      have j2 : decide ((j : Int) < (l0_17.length : Int)) = true := decide_eq_true j1
      have j3 : decide (j < l0_17.length) = true := decide_eq_true hlt
      go_wp2_with fail
      refine (signed_c (w.heap.size + 1) (w.heap.size + 1) a1 e1 row1 x (a2, e2) _ HWr.out HLr.out HS.out).mono ?_
      rintro en w3 ⟨rfl, row3, h3, hr3, hb3, hk3⟩
      have HW3 := Lib.hid h3
      have HB3 := Lib.hid (HBr.out.trans hb3)
      clear h3 hr3 hb3 hk3 hxc
      go_wp2_with fail
      go_roundw
      case rel => exact ⟨j + 1, a2, e2, row3, by omega, by go_num, HW3, HD, HB3⟩
      case measure => simp [intOf]; omega
    · have hd := HRr.out
      rw [List.drop_eq_nil_of_le (by omega)] at hd
      simp only [wSs] at hd
      obtain rfl := Option.some.inj hd
      clear hd
      have j2 : decide ((j : Int) < (l0_17.length : Int)) = false := decide_eq_false (by omega)
      have j3 : decide (j < l0_17.length) = false := decide_eq_false hlt
      have c2 := HWr.out.cell
      have HE := Lib.hid (show endB (a1, e1) = (r1, r2) from HE0.out)
      cases e1 with
      | true =>
        obtain ⟨rfl, rfl⟩ : (⟨#[]⟩ : ByteArray) = r1 ∧ (1 : Int) = r2 := Prod.mk.inj ((if_pos rfl).symm.trans HE.out)
        go_wp2_with fail
        go_ret2
        exact ⟨rfl, clientmsg_Bytes_low (HBW.out.trans (clientmsg_Bytes_low HBr.out (Nat.le_succ _))) (Nat.le_refl _)⟩
      | false =>
        obtain ⟨rfl, rfl⟩ : (⟨a1.toArray⟩ : ByteArray) = r1 ∧ (0 : Int) = r2 := Prod.mk.inj ((if_neg (show ¬ (false = true) by decide)).symm.trans HE.out)
        go_wp2_with fail
        obtain ⟨cs, hbat, _, _⟩ := HWr.out
        refine (BL.String_c _ (w.heap.size + 1) (w.heap.size + 1) 0 cs row1 _ _ hbat HLr.out).mono ?_
        rintro en Wz ⟨rfl, h3⟩
        have HBz := Lib.hid (HBW.out.trans (clientmsg_Bytes_low (HBr.out.trans h3) (Nat.le_succ _)))
        clear h3 hbat
        go_wp2_with fail
        go_ret2
        exact ⟨rfl, HBz.out⟩
set_option maxHeartbeats 8000000 in
set_option maxRecDepth 100000 in
theorem clientmsg_Bytes.calls (a0_0 : Int) (a0_1 : Bool) (a0_2 : Int) (a0_3 : Int) (a0_4 : Int) (a0_5 : Int) (a0_6 : Int) (a0_7 : Int) (a0_8 : Int) (a0_9 : Bool) (a0_10 : Bool) (a0_11 : Int) (a0_12 : Int) (a0_13 : Int) (a0_14 : Int) (a0_15 : Int) (a0_16 : Int) (A0_17 : Option Addr) (c0_17 : Nat) (l0_17 : List Int) (a0_18 : ByteArray) (r1 : ByteArray) (r2 : Int) (w : World) (hr0_17 : Kd.C (Kd.int .i64) w A0_17 l0_17.length l0_17) (hc0_17 : l0_17.length ≤ c0_17) (h : clientmsg_Bytes.f a0_0 a0_1 a0_2 a0_3 a0_4 a0_5 a0_6 a0_7 a0_8 a0_9 a0_10 a0_11 a0_12 a0_13 a0_14 a0_15 a0_16 l0_17 a0_18 = some (r1, r2)) :
    Calls Try.prog 13 #[.agg #[.int .i64 a0_0, .bool a0_1, .int .i64 a0_2, .int .i64 a0_3, .int .i64 a0_4, .int .i64 a0_5, .int .i64 a0_6, .int .i64 a0_7, .int .i64 a0_8, .bool a0_9, .bool a0_10, .int .i64 a0_11, .int .i64 a0_12, .int .i64 a0_13, .int .i64 a0_14, .int .i64 a0_15, .int .i64 a0_16, .slice A0_17 l0_17.length c0_17, .string a0_18]] w fun e w' => e = .returned (.tuple #[.string r1, .int .i64 r2]) ∧ Below w.heap.size w w' := by
  unfold clientmsg_Bytes.f at h
  by_cases h0 : a0_0 = 0
  · rw [if_pos h0] at h
    obtain ⟨v, e0, h⟩ := Option.bind_eq_some_iff.1 h
    cases v with
    | true =>
      rw [if_pos rfl] at h
      obtain ⟨st, e1, h⟩ := Option.bind_eq_some_iff.1 h
      obtain ⟨s, e2, h⟩ := Option.bind_eq_some_iff.1 h
      by_cases hsz : st.1.length + s.size ≤ 140737488351232
      case neg => rw [if_neg hsz] at h; cases h
      rw [if_pos hsz] at h
      exact clientmsg_Bytes_fmt a0_0 a0_1 a0_2 a0_3 a0_4 a0_5 a0_6 a0_7 a0_8 a0_9 a0_10 a0_11 a0_12 a0_13 a0_14 a0_15 a0_16 A0_17 c0_17 l0_17 a0_18 r1 r2 w h0 st s (Lib.hid e0) (Lib.hid e1) (Lib.hid e2) (Lib.hid hsz) (Lib.hid (Option.some.inj h))
    | false =>
      rw [if_neg (by decide)] at h
      obtain ⟨e1, e2⟩ := Prod.mk.inj (Option.some.inj h)
      exact clientmsg_Bytes_nofmt a0_0 a0_1 a0_2 a0_3 a0_4 a0_5 a0_6 a0_7 a0_8 a0_9 a0_10 a0_11 a0_12 a0_13 a0_14 a0_15 a0_16 A0_17 c0_17 l0_17 a0_18 r1 r2 w e1.symm e2.symm h0 (Lib.hid e0)
  rw [if_neg h0] at h
  by_cases h1 : a0_0 = 1
  · rw [if_pos h1] at h
    by_cases hlen : l0_17.length ≤ 1000000000000
    case neg => rw [if_neg hlen] at h; cases h
    rw [if_pos hlen] at h
    obtain ⟨st, e1, h⟩ := Option.bind_eq_some_iff.1 h
    obtain ⟨st2, e2, h⟩ := Option.bind_eq_some_iff.1 h
    obtain ⟨st3, e3, h⟩ := Option.bind_eq_some_iff.1 h
    exact clientmsg_Bytes_encs a0_0 a0_1 a0_2 a0_3 a0_4 a0_5 a0_6 a0_7 a0_8 a0_9 a0_10 a0_11 a0_12 a0_13 a0_14 a0_15 a0_16 A0_17 c0_17 l0_17 a0_18 r1 r2 w h1 hlen _ st st2 st3 (Lib.hid hr0_17) (Lib.hid rfl) (Lib.hid e1) (Lib.hid e2) (Lib.hid e3) (Lib.hid (Option.some.inj h))
  rw [if_neg h1] at h
  by_cases h2 : a0_0 = 2
  · rw [if_pos h2] at h
    obtain ⟨b, e0, h⟩ := Option.bind_eq_some_iff.1 h
    obtain ⟨st, e1, h⟩ := Option.bind_eq_some_iff.1 h
    obtain ⟨st2, e2, h⟩ := Option.bind_eq_some_iff.1 h
    exact clientmsg_Bytes_request a0_0 a0_1 a0_2 a0_3 a0_4 a0_5 a0_6 a0_7 a0_8 a0_9 a0_10 a0_11 a0_12 a0_13 a0_14 a0_15 a0_16 A0_17 c0_17 l0_17 a0_18 r1 r2 w h2 b st st2 (Lib.hid e0) (Lib.hid e1) (Lib.hid e2) (Lib.hid (Option.some.inj h))
  rw [if_neg h2] at h
  by_cases h3 : a0_0 = 3
  · rw [if_pos h3] at h
    obtain ⟨b, e0, h⟩ := Option.bind_eq_some_iff.1 h
    obtain ⟨st, e1, h⟩ := Option.bind_eq_some_iff.1 h
    obtain ⟨st2, e2, h⟩ := Option.bind_eq_some_iff.1 h
    exact clientmsg_Bytes_key a0_0 a0_1 a0_2 a0_3 a0_4 a0_5 a0_6 a0_7 a0_8 a0_9 a0_10 a0_11 a0_12 a0_13 a0_14 a0_15 a0_16 A0_17 c0_17 l0_17 a0_18 r1 r2 w h3 b st st2 (Lib.hid e0) (Lib.hid e1) (Lib.hid e2) (Lib.hid (Option.some.inj h))
  rw [if_neg h3] at h
  by_cases h4 : a0_0 = 4
  · rw [if_pos h4] at h
    obtain ⟨st, e1, h⟩ := Option.bind_eq_some_iff.1 h
    obtain ⟨st2, e2, h⟩ := Option.bind_eq_some_iff.1 h
    exact clientmsg_Bytes_pointer a0_0 a0_1 a0_2 a0_3 a0_4 a0_5 a0_6 a0_7 a0_8 a0_9 a0_10 a0_11 a0_12 a0_13 a0_14 a0_15 a0_16 A0_17 c0_17 l0_17 a0_18 r1 r2 w h4 st st2 (Lib.hid e1) (Lib.hid e2) (Lib.hid (Option.some.inj h))
  rw [if_neg h4] at h
  by_cases h5 : a0_0 = 5
  · rw [if_pos h5] at h
    by_cases hlen : a0_18.size ≤ 140737488351232
    case neg => rw [if_neg hlen] at h; cases h
    rw [if_pos hlen] at h
    obtain ⟨st, e1, h⟩ := Option.bind_eq_some_iff.1 h
    obtain ⟨st2, e2, h⟩ := Option.bind_eq_some_iff.1 h
    by_cases hsz : st2.1.length + a0_18.size ≤ 140737488351232
    case neg => rw [if_neg hsz] at h; cases h
    rw [if_pos hsz] at h
    exact clientmsg_Bytes_cut a0_0 a0_1 a0_2 a0_3 a0_4 a0_5 a0_6 a0_7 a0_8 a0_9 a0_10 a0_11 a0_12 a0_13 a0_14 a0_15 a0_16 A0_17 c0_17 l0_17 a0_18 r1 r2 w h5 _ st st2 (Lib.hid rfl) (Lib.hid e1) (Lib.hid e2) (Lib.hid hsz) (Lib.hid (Option.some.inj h))
  rw [if_neg h5] at h
  obtain ⟨e1, e2⟩ := Prod.mk.inj (Option.some.inj h)
  exact clientmsg_Bytes_none a0_0 a0_1 a0_2 a0_3 a0_4 a0_5 a0_6 a0_7 a0_8 a0_9 a0_10 a0_11 a0_12 a0_13 a0_14 a0_15 a0_16 A0_17 c0_17 l0_17 a0_18 r1 r2 w e1.symm e2.symm h0 h1 h2 h3 h4 h5

end Go.Proofs.Ytclikkhkhoicfaa.X
