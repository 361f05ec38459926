/- What each Go function that these laws use answers: as a Lean function, with the proof that the machine's call comes to it. Written by a program of this session (xprint.py). -/
import Derived.Test.YtkobiblgbpnlaaaXx0
import Derived.Test.YtkobiblgbpnlaaaXx5
import Derived.Test.YtkobiblgbpnlaaaXx13
import Derived.Test.YtkobiblgbpnlaaaXx14
namespace Go.Proofs.Ytkobiblgbpnlaaa.X
open Go.RowKit Go.Proofs.YtkobiblgbpnlaaaW.PrintWords Go.Proofs.YtkobiblgbpnlaaaW.PrintLast Go.Proofs.YtkobiblgbpnlaaaW.PrintMore
attribute [local go_sem] max2_int min2_int max_two min_two max_three min_three max_four min_four   -- for this text's walks alone
set_option linter.unusedVariables false
set_option linter.unusedSimpArgs false

/-! ### region_row: function 43 -/
section
theorem flat_get {α : Type} (f : α → List Value) (k : Nat) (hk : ∀ x, (f x).length = k) (hk0 : 0 < k) : ∀ (l : List α) (j : Nat), (l.flatMap f)[j]? = (l[j / k]?).bind fun x => (f x)[j % k]?
  | [], j => by simp
  | x :: l, j => by
    rw [List.flatMap_cons]
    by_cases h : j < k
    · rw [List.getElem?_append_left (by rw [hk]; exact h), Nat.div_eq_of_lt h, Nat.mod_eq_of_lt h]
      rfl
    · obtain ⟨m, rfl⟩ : ∃ m, j = k + m := ⟨j - k, by omega⟩
      rw [List.getElem?_append_right (by rw [hk]; omega), hk, Nat.add_sub_cancel_left, flat_get f k hk hk0 l m, Nat.add_div_left _ hk0, Nat.add_mod_left]
      rfl
theorem flat_len {α : Type} (f : α → List Value) (k : Nat) (hk : ∀ x, (f x).length = k) : ∀ l : List α, (l.flatMap f).length = l.length * k
  | [] => by simp
  | x :: l => by rw [List.flatMap_cons, List.length_append, hk, flat_len f k hk l, List.length_cons, Nat.succ_mul]; omega
/-- The cells of a row of elements, one by one. -/
theorem cells_get {α : Type} {d : Kd α} {w : World} {A : Option Addr} {n : Nat} {xs : List α} (z : α) (f : α → List Value) (k : Nat) (hk : ∀ x, (f x).length = k) (hk0 : 0 < k) (h : ∀ i : Int, 0 ≤ i → i < n → ∃ ad, A = some ad ∧ ∀ j u, (f (xs.getD i.toNat z))[j]? = some u → w.cell? (ad.add (i.toNat * k + j)) = some u) (hn : n = xs.length) (hp : 0 < n) : ∃ ad, A = some ad ∧ ∀ j u, (xs.flatMap f)[j]? = some u → w.cell? (ad.add j) = some u := by
  obtain ⟨ad, ha, _⟩ := h 0 (Int.le_refl _) (by omega)
  refine ⟨ad, ha, fun j u hj => ?_⟩
  rw [flat_get f k hk hk0] at hj
  obtain ⟨x, hx, hu⟩ := Option.bind_eq_some_iff.1 hj
  have hlt := (List.getElem?_eq_some_iff.1 hx).1
  obtain ⟨ad', ha', hc⟩ := h ((j / k : Nat) : Int) (Int.natCast_nonneg _) (by omega)
  rw [ha] at ha'
  obtain rfl := Option.some.inj ha'
  rw [Int.toNat_natCast] at hc
  have e1 : xs.getD (j / k) z = x := by rw [List.getD_eq_getElem?_getD, hx]; rfl
  have h2 := hc (j % k) u (by rw [e1]; exact hu)
  rwa [Nat.mul_comm, Nat.div_add_mod] at h2
theorem run_append_empty {P : Program} {w : World} (base : Nat) (t ty e : TypeId) (i : TypeInfo) (size : Nat) (ht : P.underlying t = some (.slice e)) (hi : P.info? e = some i) (v : Value) (n : Nat) (xs : List Value) (hown : w.ownsRow base e size v n xs) (A : Option Addr) (c : Nat) :
    (Builtin.append_ #[t, t] ty #[v, .slice A 0 c]).run P w = .ok v w := by
  rcases hown.2 with ⟨rfl, rfl⟩ | ⟨g, cap, cur, rfl, _, _, hnc, _⟩
  · cases A <;> simp [Builtin.append_, run_underlying ht, sizeOf, typeInfo, hi, Builtin.lenOf, Builtin.firstCells, loadCells, loadCellsFrom]
  · cases A <;> simp [Builtin.append_, run_underlying ht, sizeOf, typeInfo, hi, Builtin.lenOf, Builtin.firstCells, hnc, storeCells, loadCells, loadCellsFrom]
def cv_span (x : S60) : List Value := [.int .i64 x.f0, .int .i64 x.f1]
theorem cells_span {w : World} {A : Option Addr} {xs : List S60} (h : Kd.C k60 w A xs.length xs) (hp : 0 < xs.length) : ∃ ad, A = some ad ∧ ∀ j u, (xs.flatMap cv_span)[j]? = some u → w.cell? (ad.add j) = some u := by
  refine cells_get (d := k60) z60 cv_span 2 (fun _ => rfl) (by decide) (fun i h0 h1 => ?_) rfl hp
  obtain ⟨ad, c, e, _, hK, hc0⟩ := Kd.C_get h z60 i h0 h1
  obtain rfl := k60_open hK
  exact ⟨ad, e, hc0⟩
theorem append_span {ops : Array Oper} {rest : List Oper} {o : Oper} {a : Act} {Q : Exit → Act → World → Prop} {w : World} (hgd : o.guard = none) (s x : Operand) (ho : o.op = .call { callee := .builtin .append, args := #[s, x], argTypes := #[45, 45] })
    (base : Nat) (v : Value) (n : Nat) (xs : List Value) (hs : a.eval s = v) (hown : w.ownsRow base 60 2 v n xs) (A : Option Addr) (c : Nat) (l : List S60) (hx : a.eval x = .slice A l.length c) (hC : Kd.C k60 w A l.length l) (hn : n + l.length ≤ 1000000000) (hbase : base ≤ w.heap.size)
    (h : ∀ v' w', w'.ownsRow base 60 2 v' (n + l.length) (xs ++ l.flatMap cv_span) → w.grownBy w' v.ownBlock → (v'.ownBlock = v.ownBlock ∨ ∃ g, v'.ownBlock = some g ∧ w.heap.size ≤ g) → wpList Try.prog ops Q rest (a.put o.dst v') w') : wpList Try.prog ops Q (o :: rest) a w := by
  obtain ⟨i0, hi, hzz⟩ := Option.map_eq_some_iff.1 info60
  simp only [Prod.mk.injEq] at hzz
  obtain ⟨hz0, hz1, hz2⟩ := hzz
  by_cases h0 : l.length = 0
  · have hl : l = [] := List.length_eq_zero_iff.1 h0
    subst hl
    refine Lib.wpList_append_run w hgd s x 45 45 ho v (.slice A 0 c) hs hx v w (run_append_empty base 45 o.type 60 i0 2 Try.underlying45 hi v n xs hown A c) (h v w ?_ ⟨rfl, rfl, rfl, Nat.le_refl _, fun _ _ _ => rfl⟩ (.inl rfl))
    simpa using hown
  · obtain ⟨ad, rfl, hc⟩ := cells_span hC (by omega)
    refine wpList_append_lies w hgd s x 45 ho base 60 i0 _ 2 16 Try.underlying45 hi hz0 hz1 hz2 rfl (by decide) v n xs hs hown ad l.length c (l.flatMap cv_span) hx (by rw [flat_len cv_span 2 (fun _ => rfl)]) hc (fun u hu => ?_) (by omega) (by unfold maxLen; omega) (by omega) hbase _ rfl ?_
    · obtain ⟨y, _, hy⟩ := List.mem_flatMap.1 hu
      simp only [cv_span, List.mem_cons, List.not_mem_nil, or_false] at hy
      rcases hy with rfl | rfl <;> rfl
    · intro g cap w' h1 h2 h3 h4
      refine h _ _ h1 h2 ?_
      rcases h3 with h3 | rfl
      · exact .inl h3.symm
      · exact .inr ⟨_, rfl, Nat.le_refl _⟩
theorem grow_span (n : Nat) (w : World) (hn : n ≤ 1000000) :
    Calls Try.prog 60 #[.slice none 0 0, .int .i64 n] w fun e w' => ∃ v, e = .returned v ∧ w'.ownsRow w.heap.size 60 2 v 0 [] ∧ Below w.heap.size w w' := by
  have t0 : wrap64 ((n : Int) - 0) = (n : Int) := by unfold wrap64; omega
  by_cases h0 : n = 0
  · subst h0
    go_enter Try.func60, Try.ntmps60
    go_wp2_with fail
    go_ret
    exact ⟨_, rfl, World.ownsRow_nil _ _ _ _, Below.refl _ _⟩
  · have d0 : decide ((n : Int) < 0) = false := decide_eq_false (by omega)
    have d1 : decide ((n : Int) > 0) = true := decide_eq_true (by omega)
    have d2 : decide (0 < n) = true := decide_eq_true (by omega)
    go_enter Try.func60, Try.ntmps60
    obtain ⟨i0, hi, hzz⟩ := Option.map_eq_some_iff.1 info60
    simp only [Prod.mk.injEq] at hzz
    obtain ⟨hz0, hz1, hz2⟩ := hzz
    have hrun := Lib.run_append_nil_zeros (P := Try.prog) w 45 3 45 60 i0 (.agg #[.int .i64 0, .int .i64 0]) .i64 .i64 Try.underlying45 Try.underlying3 hi hz0 n (by omega) (by rw [hz1]; decide) (by omega) (by rw [hz2]; omega)
    have HRUN := Lib.hid hrun
    obtain ⟨gc, hgc⟩ : ∃ gc, grownCap w n 0 60 = gc := ⟨_, rfl⟩
    rw [hgc] at hrun
    clear hrun hi hz0 hz1 hz2
    go_wp2_with (at_builtin; refine Lib.wpList_append_run _ rfl _ _ _ _ rfl _ _ rfl rfl _ _ HRUN.out ?_)
    go_ret
    have hge : n ≤ gc := by rw [← hgc]; exact grownCap_ge w n 0 _
    have hle : gc ≤ maxLen := by rw [← hgc]; exact grownCap_le_maxLen w n 0 _ (by unfold maxLen; omega)
    refine ⟨_, rfl, World.ownsRow.drew ⟨rfl, .inr ⟨w.heap.size, gc, _, rfl, Nat.le_refl _, heap_alloc_new w _, Nat.zero_le _, hle, ?_, by simp⟩⟩, Below.drew (below_alloc (Below.refl _ _) _)⟩
    rw [Array.size_append, size_zeroCells, size_zeroCells]
    show n * 2 + (gc - n) * 2 = gc * 2
    omega
set_option maxHeartbeats 4000000 in
set_option maxRecDepth 100000 in
theorem concat_span (A B : Option Addr) (c d : Nat) (xs ys : List S60) (b : Nat) (w : World) (hb : w.heap[b]? = some (.cells #[.slice A xs.length c, .slice B ys.length d] 45 (0, 0))) (h1 : Kd.C k60 w A xs.length xs) (h2 : Kd.C k60 w B ys.length ys) (hc : xs.length ≤ c) (hd : ys.length ≤ d) (hl : xs.length + ys.length ≤ 1000000) :
    Calls Try.prog 55 #[.slice (some ⟨b, 0, none⟩) 2 2] w fun e w' => ∃ v, e = .returned v ∧ w'.ownsRow w.heap.size 60 2 v (xs.length + ys.length) ((xs ++ ys).flatMap cv_span) ∧ Below w.heap.size w w' := by
  obtain ⟨i0, hi, hzz⟩ := Option.map_eq_some_iff.1 info60
  simp only [Prod.mk.injEq] at hzz
  obtain ⟨hz0, hz1, hz2⟩ := hzz
  have HI := Lib.hid hi
  have HI0 := Lib.hid hz0
  have HI1 := Lib.hid hz1
  have HI2 := Lib.hid hz2
  have HB := Lib.hid hb
  have H1 := Lib.hid h1
  have H2 := Lib.hid h2
  have y0 : w.cell? ⟨b, 0, none⟩ = some (.slice A xs.length c) := (blk_cell hb 0).trans rfl
  have y1 : w.cell? ⟨b, 1, none⟩ = some (.slice B ys.length d) := (blk_cell hb 1).trans rfl
  clear hi hz0 hz1 hz2 hb h1 h2
  obtain ⟨N, hN⟩ : ∃ N : Nat, N = xs.length + ys.length := ⟨_, rfl⟩
  have w1 : wrap64 ((0 : Int) + (xs.length : Int)) = (xs.length : Int) := by unfold wrap64; omega
  have w2 : wrap64 ((xs.length : Int) + (ys.length : Int)) = (N : Int) := by unfold wrap64; omega
  have w3 : (xs.length : Int) + (ys.length : Int) = (N : Int) := by omega
  have d1 : decide ((xs.length : Int) < 0) = false := decide_eq_false (by omega)
  have d2 : decide ((N : Int) < 0) = false := decide_eq_false (by omega)
  have HN := Lib.hid hN
  have HLN := Lib.hid (show N ≤ 1000000 by omega)
  rw [← hN]
  clear hN
  go_enter Try.func55, Try.ntmps55
  go_wp2_with fail
  refine wp_loop_rounds 3 ?_
  rw [rounds_succ]
  go_wp2_with fail
  rw [rounds_succ]
  go_wp2_with fail
  rw [rounds_succ]
  go_wp2_with fail
  clear w1 w2 w3 d1 d2
  refine (grow_span N w HLN.out).mono ?_
  rintro e W1 ⟨v1, rfl, ho, hbl⟩
  obtain ⟨A1, c1, rfl⟩ : ∃ A c, v1 = .slice A 0 c := by rcases ho.2 with ⟨rfl, _⟩ | ⟨g, cap, _, rfl, _⟩ <;> exact ⟨_, _, rfl⟩
  have HO1 := Lib.hid ho
  have HL1 := Lib.hid hbl
  have HB1 := Lib.hid (blk_below HB.out hbl)
  have HC1 := Lib.hid (Kd.C_below H1.out hbl)
  have HD1 := Lib.hid (Kd.C_below H2.out hbl)
  clear ho hbl y0 y1
  have y0 : W1.cell? ⟨b, 0, none⟩ = some (.slice A xs.length c) := (blk_cell HB1.out 0).trans rfl
  go_wp2_with fail
  refine wp_loop_rounds 3 ?_
  rw [rounds_succ]
  go_wp2_with (at_builtin; refine append_span rfl _ _ rfl w.heap.size (.slice A1 0 c1) 0 [] (by simp [Act.eval, Act.put]) HO1.out A c xs (by simp [Act.eval, Act.put]) HC1.out (by omega) HL1.out.size ?_; intro v2 W2 ho2 hg2 hat2; have HO2 := Lib.hid ho2; have HG2 := Lib.hid hg2; clear ho2 hg2 hat2)
  have HL2 := Lib.hid (HL1.out.grown HG2.out HL1.out.size (own_base HO1.out))
  have hbl := blk_lt HB.out
  have hb2 : W2.heap[b]? = some (.cells #[.slice A xs.length c, .slice B ys.length d] 45 (0, 0)) := (HL2.out.block b hbl).trans HB.out
  have y1 : W2.cell? ⟨b, 1, none⟩ = some (.slice B ys.length d) := (blk_cell hb2 1).trans rfl
  have HD2 := Lib.hid (Kd.C_below H2.out HL2.out)
  clear y0 hb2 hbl
  obtain ⟨A2, c2, rfl⟩ : ∃ A c, v2 = .slice A (0 + xs.length) c := by rcases HO2.out.2 with ⟨rfl, h⟩ | ⟨g, cap, _, rfl, _⟩; (exact ⟨none, 0, by rw [h]⟩); exact ⟨_, _, rfl⟩
  rw [rounds_succ]
  go_wp2_with (at_builtin; refine append_span rfl _ _ rfl w.heap.size (.slice A2 (0 + xs.length) c2) (0 + xs.length) _ (by simp [Act.eval, Act.put]) HO2.out B d ys (by simp [Act.eval, Act.put]) HD2.out (by omega) HL2.out.size ?_; intro v3 W3 ho3 hg3 hat3; have HO3 := Lib.hid ho3; have HG3 := Lib.hid hg3; clear ho3 hg3 hat3)
  rw [rounds_succ]
  go_wp2_with fail
  go_ret
  refine ⟨v3, rfl, ?_, HL2.out.grown HG3.out HL2.out.size (own_base HO2.out)⟩
  have h3 := HO3.out
  rw [Nat.zero_add, List.nil_append, ← List.flatMap_append] at h3
  rw [HN.out]
  exact h3
end
section
/-- All ends of pieces. -/
def endsL (l : List S60) : List Int := l.flatMap fun s => [s.f0, s.f1]
/-- One step of a row: a piece more, or the last one longer. -/
def stepR (kp : Bool → Bool → Bool) (a b out : List S60) (f t : Int) : List S60 := if kp (inS a f) (inS b f) = true then (if 0 < out.length ∧ (out.getLastD z60).f1 = f then out.dropLast ++ [⟨(out.getLastD z60).f0, t⟩] else out ++ [⟨f, t⟩]) else out
def rowL (kp : Bool → Bool → Bool) (a b : List S60) (L : List Int) (n : Nat) : List S60 := (List.range n).foldl (fun o k => stepR kp a b o (L.getD k 0) (L.getD (k + 1) 0)) []
def rowS (kp : Bool → Bool → Bool) (a b : List S60) : List S60 := rowL kp a b (srtL (endsL (a ++ b))) ((srtL (endsL (a ++ b))).length - 1)
theorem endsL_len (l : List S60) (k : Nat) (h : k ≤ l.length) : (endsL (l.take k)).length = 2 * k := by
  have h1 : ∀ l : List S60, (endsL l).length = 2 * l.length := fun l => by
    induction l with
    | nil => rfl
    | cons x l ih => simp only [endsL, List.flatMap_cons, List.length_append, List.length_cons, List.length_nil] at ih ⊢; omega
  rw [h1, List.length_take]; omega
theorem endsL_next (l : List S60) (k : Nat) (s : S60) (h : l[k]? = some s) : endsL (l.take (k + 1)) = endsL (l.take k) ++ [s.f0, s.f1] := by
  rw [List.take_add_one, h]; simp [endsL]
def outL (kp : Bool → Bool → Bool) (a b : List S60) (L : List Int) (pre : List {k : Nat // k + 1 < L.length}) : List S60 := pre.foldl (fun o k => stepR kp a b o (L.getD k.1 0) (L.getD (k.1 + 1) 0)) []
theorem outL_all (kp : Bool → Bool → Bool) (a b : List S60) (L : List Int) (xs : List {k : Nat // k + 1 < L.length}) (h : xs.map (·.1) = List.range (L.length - 1)) : outL kp a b L xs = rowL kp a b L (L.length - 1) := by
  unfold outL rowL; rw [← h, List.foldl_map]
theorem outL_len (kp : Bool → Bool → Bool) (a b : List S60) (L : List Int) (pre : List {k : Nat // k + 1 < L.length}) : (outL kp a b L pre).length ≤ pre.length := by
  have h : ∀ (pre : List {k : Nat // k + 1 < L.length}) (o : List S60), (pre.foldl (fun o k => stepR kp a b o (L.getD k.1 0) (L.getD (k.1 + 1) 0)) o).length ≤ o.length + pre.length := fun pre => by
    induction pre with
    | nil => exact fun o => Nat.le_refl _
    | cons x pre ih =>
      intro o
      rw [List.foldl_cons, List.length_cons]
      refine Nat.le_trans (ih _) ?_
      have h1 : (stepR kp a b o (L.getD x.1 0) (L.getD (x.1 + 1) 0)).length ≤ o.length + 1 := by
        unfold stepR
        split
        · split <;> simp <;> omega
        · omega
      omega
  have h2 := h pre []; rw [List.length_nil, Nat.zero_add] at h2; exact h2
theorem srtL_le (l : List Int) : (srtL l).length ≤ l.length := Go.Proofs.Ytkobiblgbpnlaaa.RG.isrt_len l
theorem wpIn_split {F : Fence} {n : Nat} {P : Program} {c : Code} {Q : Exit → Act → World → Prop} {a : Act} {w : World} (R : World → Prop)
    (h : ∃ T : Array Value, c.wpIn F n P (RX.onlyN (fun a' w' => a' = { tmps := T, defers := a.defers } ∧ R w')) a w ∧ ∀ w', R w' → Q .normal { tmps := T, defers := a.defers } w') : c.wpIn F n P Q a w := by
  obtain ⟨T, h1, h2⟩ := h
  refine wpIn_mono h1 (fun e a' w' hq => ?_)
  cases e with
  | normal => obtain ⟨rfl, hr⟩ := hq; exact h2 _ hr
  | _ => exact hq.elim
theorem below_grown {b : Nat} {W w w' : World} {e : TypeId} {s n : Nat} {v : Value} {xs : List Value} (hB : Below b W w) (hb : b ≤ w.heap.size) (ho : w.ownsRow b e s v n xs) (hg : w.grownBy w' v.ownBlock) : Below b W w' :=
  ⟨hg.os.trans hB.os, hg.tape.trans hB.tape, hg.output.trans hB.output, Nat.le_trans hB.size hg.size, fun q hq => (hg.block q (by omega) (by
    intro h
    rcases ho.2 with ⟨he, _⟩ | ⟨g, cap, cur, he, hbg, _⟩
    · rw [he] at h; cases h
    · rw [he] at h
      obtain rfl : q = g := by simpa [Value.ownBlock] using h
      omega)).trans (hB.block q hq)⟩
open Go.Shelf Go.Sort Go.Proofs.Ytkobiblgbpnlaaa.RX Go.Proofs.Ytkobiblgbpnlaaa
attribute [local go_sem] Oper.semAt_some
set_option maxHeartbeats 8000000 in
set_option maxRecDepth 100000 in
theorem row_c (fk : FuncId) (kp : Bool → Bool → Bool) (he : ∀ args w, (callFunc fk args).run Try.prog w = .ok (.enter fk args) w) (hf : ∀ (W : World) (x y : Bool), Calls Try.prog fk #[.bool x, .bool y] W fun e w' => e = .returned (.bool (kp x y)) ∧ w' = W) (A B : Option Addr) (c d : Nat) (a b : List S60) (w : World) (h1 : Kd.C k60 w A a.length a) (h2 : Kd.C k60 w B b.length b) (hc : a.length ≤ c) (hd : b.length ≤ d) (hl : a.length + b.length ≤ 5000) :
    Calls Try.prog 43 #[.slice A a.length c, .slice B b.length d, .func (.func fk) #[] #[]] w fun e w' => ∃ v, e = .returned v ∧ w'.ownsRow w.heap.size 60 2 v (rowS kp a b).length ((rowS kp a b).flatMap cv_span) ∧ Below w.heap.size w w' := by
  obtain ⟨i0, hi, hzz⟩ := Option.map_eq_some_iff.1 info3
  simp only [Prod.mk.injEq] at hzz
  obtain ⟨hz0, hz1, hz2⟩ := hzz
  have HE := Lib.hid he
  have HF := Lib.hid hf
  have HI := Lib.hid hi
  have HI0 := Lib.hid hz0
  have HI1 := Lib.hid hz1
  have HI2 := Lib.hid hz2
  have H1 := Lib.hid h1
  have H2 := Lib.hid h2
  have HL := Lib.hid hl
  have HCD := Lib.hid (And.intro hc hd)
  clear he hf hi hz0 hz1 hz2 h1 h2 hc hd
  refine (callsIn_wide (n := 4)).1 ?_
  refine callsIn_of_wp_marks Try.func43 rfl trivial ?_ rfl
  simp only [Try.ntmps43, List.size_toArray, List.length_cons, List.length_nil, Nat.reduceAdd, Nat.reduceSub, Array.replicate_succ, Array.replicate_zero, List.push_toArray, List.append_toArray, List.nil_append, List.cons_append]
  obtain ⟨Wb, hWb⟩ : ∃ X, (((w.alloc (.cells #[.slice A a.length c] 45)).alloc (.cells #[.slice B b.length d] 45)).alloc (.cells #[.func (.func fk) #[] #[]] 39)).alloc (.cells #[.slice A a.length c, .slice B b.length d] 45) = X := ⟨_, rfl⟩
  have hbz : Below w.heap.size w Wb := by rw [← hWb]; exact below_alloc (below_alloc (below_alloc (below_alloc (Below.refl _ _) _) _) _) _
  have hA : Wb.heap[w.heap.size]? = some (.cells #[.slice A a.length c] 45 (0, 0)) := by rw [← hWb]; exact (Below.heap_alloc _ _ _ (by simp <;> omega)).trans ((Below.heap_alloc _ _ _ (by simp <;> omega)).trans ((Below.heap_alloc _ _ _ (by simp)).trans (heap_alloc_new w _)))
  have hB : Wb.heap[w.heap.size + 1]? = some (.cells #[.slice B b.length d] 45 (0, 0)) := by have h0 := heap_alloc_new (w.alloc (.cells #[.slice A a.length c] 45)) (.cells #[.slice B b.length d] 45); rw [World.size_alloc] at h0; rw [← hWb]; exact (Below.heap_alloc _ _ _ (by simp <;> omega)).trans ((Below.heap_alloc _ _ _ (by simp)).trans h0)
  have hK : Wb.heap[w.heap.size + 1 + 1]? = some (.cells #[.func (.func fk) #[] #[]] 39 (0, 0)) := by have h0 := heap_alloc_new ((w.alloc (.cells #[.slice A a.length c] 45)).alloc (.cells #[.slice B b.length d] 45)) (.cells #[.func (.func fk) #[] #[]] 39); rw [World.size_alloc, World.size_alloc] at h0; rw [← hWb]; exact (Below.heap_alloc _ _ _ (by simp)).trans h0
  have hS : Wb.heap[w.heap.size + 1 + 1 + 1]? = some (.cells #[.slice A a.length c, .slice B b.length d] 45 (0, 0)) := by have h0 := heap_alloc_new (((w.alloc (.cells #[.slice A a.length c] 45)).alloc (.cells #[.slice B b.length d] 45)).alloc (.cells #[.func (.func fk) #[] #[]] 39)) (.cells #[.slice A a.length c, .slice B b.length d] 45); rw [World.size_alloc, World.size_alloc, World.size_alloc, hWb] at h0; exact h0
  have hsz : Wb.heap.size = w.heap.size + 4 := by rw [← hWb]; simp
  have HA := Lib.hid hA
  have HB := Lib.hid hB
  have HK := Lib.hid hK
  have HS := Lib.hid hS
  have HBZ := Lib.hid hbz
  have HSZ := Lib.hid hsz
  have C1 := Lib.hid (Kd.C_below H1.out hbz)
  have C2 := Lib.hid (Kd.C_below H2.out hbz)
  clear hA hB hK hS hbz hsz
  gi_wp2
  refine ⟨trivial, (callsIn_wide.2 (concat_span A B c d a b (w.heap.size + 1 + 1 + 1) Wb HS.out C1.out C2.out HCD.out.1 HCD.out.2 (by have := HL.out; omega))).mono ?_⟩
  rintro e W1 ⟨v1, rfl, ho1, hb1⟩
  have hlen : (a ++ b).length = a.length + b.length := List.length_append
  obtain ⟨N, hN⟩ : ∃ N : Nat, a.length + b.length = N := ⟨_, rfl⟩
  rw [hN] at ho1
  have HN := Lib.hid hN
  have hN9 : N ≤ 5000 := by have := HL.out; omega
  clear hN hlen hWb
  obtain ⟨A1, c1, rfl⟩ := own_slice ho1
  have HO1 := Lib.hid ho1
  have HB1 := Lib.hid hb1
  clear ho1 hb1
  gi_wp2
  have hlen : (a ++ b).length = a.length + b.length := List.length_append
  gi_loopw [7, 19] (fun p7 p19 wr => ∃ (k : Nat), k ≤ N ∧ p19 = .int .i64 k ∧ Hid (wr.ownsRow W1.heap.size 3 1 p7 (endsL ((a ++ b).take k)).length ((endsL ((a ++ b).take k)).map (Value.int .i64))) ∧ Hid (Below W1.heap.size W1 wr)) (fun _ p19 _ => N - (intOf p19).toNat)
  case atStart => exact ⟨0, Nat.zero_le _, rfl, Lib.hid (World.ownsRow_nil _ _ _ _), Lib.hid (Below.refl _ _)⟩
  case round =>
    obtain ⟨k, hk, rfl, HX, HBr⟩ := hrel
    by_cases hlt : k < N
    · have d0 : decide ((k : Int) < (N : Int)) = true := decide_eq_true (by omega)
      obtain ⟨g, hg⟩ : ∃ g, A1 = some ⟨g, 0, none⟩ := by rcases HO1.out.2 with ⟨_, h0⟩ | ⟨g, cap, cur, he, _⟩; (omega); injection he with h1; exact ⟨g, h1⟩
      subst hg
      have hkl : k < (a ++ b).length := by rw [List.length_append]; have := HN.out; omega
      obtain ⟨x, hx⟩ : ∃ x, (a ++ b)[k] = x := ⟨_, rfl⟩
      have hcl : ∀ j, j < 2 → wr.cell? ⟨g, k * 2 + j, none⟩ = (cv_span x)[j]? := fun j hj => by
        have h3 : ((a ++ b).flatMap cv_span)[k * 2 + j]? = (cv_span x)[j]? := by rw [flat_get cv_span 2 (fun _ => rfl) (by decide), show (k * 2 + j) / 2 = k by omega, show (k * 2 + j) % 2 = j by omega, List.getElem?_eq_getElem hkl, hx]; rfl
        have h4 : j < (cv_span x).length := hj
        rw [List.getElem?_eq_getElem h4] at h3 ⊢
        have h5 := HO1.out.cells (g := g) rfl _ _ h3
        rw [Addr.add_lit, Nat.zero_add] at h5
        exact pw_cell_below HBr.out h5
      obtain ⟨u, v⟩ := x
      have x0 : wr.cell? ⟨g, k * 2, none⟩ = some (.int .i64 u) := hcl 0 (by decide)
      have x1 : wr.cell? ⟨g, k * 2 + 1, none⟩ = some (.int .i64 v) := hcl 1 (by decide)
      have HXX : Hid ((a ++ b)[k]? = some ⟨u, v⟩) := Lib.hid ((List.getElem?_eq_getElem hkl).trans (congrArg some hx))
      have HKL := Lib.hid hkl
      have p0 : (0 : Int) ≤ (k : Int) := by omega
      have p1 : (k : Int) < (N : Int) := by omega
      clear hcl hx hkl
      obtain ⟨A7, c7, rfl⟩ := own_slice HX.out
      obtain ⟨m, hm⟩ : ∃ m, (endsL ((a ++ b).take k)).length = m := ⟨_, rfl⟩
      rw [hm] at HX ⊢
      have HM := Lib.hid hm
      clear hm
      have hm9 : m = 2 * k := by rw [← HM.out]; exact endsL_len _ _ (by have := HN.out; have := @List.length_append _ a b; omega)
      have HM9 := Lib.hid hm9
      clear hm9
      have h0 := heap_alloc_new (wr.alloc (.cells #[.int .i64 u, .int .i64 v] 60)) (.cells #[.int .i64 u, .int .i64 v] 3); rw [World.size_alloc] at h0
      have HNW := Lib.hid (World.news_of_block h0)
      clear h0
      have HB3 : Hid (m + 2 ≤ maxLen) := Lib.hid (by have := HM9.out; unfold maxLen; omega)
      have HB4 : Hid ((m + 2) * 8 ≤ 140737488355328) := Lib.hid (by have := HM9.out; omega)
      have HB5 : Hid (W1.heap.size ≤ ((wr.alloc (.cells #[.int .i64 u, .int .i64 v] 60)).alloc (.cells #[.int .i64 u, .int .i64 v] 3)).heap.size) := Lib.hid (by have := HBr.out.size; simp; omega)
      gi_wp2_with (gi_at_builtin; refine wpListIn_append_own _ rfl _ _ 40 rfl W1.heap.size 3 i0 (.int .i64 0) 1 8 Try.underlying40 HI.out HI0.out HI1.out HI2.out rfl (by decide) _ _ _ rfl ((HX.out.alloc _).alloc _) ⟨wr.heap.size + 1, 0, none⟩ 2 2 [.int .i64 u, .int .i64 v] rfl rfl HNW.out (by simp [Value.oneCell']) HB3.out HB4.out HB5.out ?_; intro v' w2 hown' hgrow _; obtain ⟨g', cap', rfl⟩ := ownsRow_succ hown'; have HOW := Lib.hid hown'; have HGR := Lib.hid hgrow; clear hown' hgrow)
      refine ⟨⟨k + 1, by omega, by push_cast; rfl, ?_, ?_⟩, by simp [intOf]; omega⟩
      · rw [endsL_next _ _ _ HXX.out, List.map_append, List.length_append, HM.out]; exact Lib.hid HOW.out
      · exact Lib.hid (below_grown (below_alloc (below_alloc HBr.out _) _) HB5.out ((HX.out.alloc _).alloc _) HGR.out)
    · have d0 : decide ((k : Int) < (N : Int)) = false := decide_eq_false (by omega)
      have hkn : k = N := by omega
      subst hkn
      rw [List.take_of_length_le (by have := HN.out; rw [List.length_append]; omega)] at HX
      obtain ⟨A7, c7, rfl⟩ := own_slice HX.out
      have hel : (endsL (a ++ b)).length ≤ 10000 := by have h1 := endsL_len (a ++ b) (a ++ b).length (Nat.le_refl _); rw [List.take_length, List.length_append] at h1; have := HL.out; omega
      obtain ⟨L, hL⟩ : ∃ L, srtL (endsL (a ++ b)) = L := ⟨_, rfl⟩
      have HEL := Lib.hid hel
      clear hel
      gi_wp2
      refine ⟨trivial, (callsIn_wide.2 (sorted_c _ _ (endsL (a ++ b)) W1.heap.size _ (HX.out.alloc _) (by have := HEL.out; omega))).mono ?_⟩
      rintro e W6 ⟨v8, rfl, ho8, hw8, hg8⟩
      rw [hL] at ho8
      obtain ⟨A8, c8, rfl⟩ := own_slice ho8
      have HO8 := Lib.hid ho8
      have HG8 := Lib.hid hg8
      have HLL := Lib.hid hL
      have HW8 := Lib.hid hw8
      clear ho8 hg8 hL hw8
      gi_wp2
      refine ⟨trivial, (callsIn_wide.2 (steps_maker A8 _ c8 W6)).mono ?_⟩
      rintro e W7 ⟨rfl, hW7⟩
      have HW7 := Lib.hid hW7
      clear hW7
      gi_wp2
      have hs7 : W7.heap.size = W6.heap.size + 1 := by rw [HW7.out]; simp
      have hs6 : wr.heap.size + 1 ≤ W6.heap.size := by have := HG8.out.size; rw [World.size_alloc] at this; exact this
      have hnA : ∀ q, (Value.slice A7 (endsL (a ++ b)).length c7).ownBlock = some q → W1.heap.size ≤ q ∧ q < wr.heap.size := fun q hq => by
        rcases HX.out.2 with ⟨he, _⟩ | ⟨g, cap, cur, he, hbg, hgw, _⟩
        · rw [he] at hq; cases hq
        · rw [he] at hq
          obtain rfl : q = g := by simpa [Value.ownBlock] using hq.symm
          exact ⟨hbg, (Array.getElem?_eq_some_iff.1 hgw).1⟩
      have hB7 : W7.heap[W6.heap.size]? = some (.cells #[.slice A8 L.length c8] 40 (0, 0)) := by rw [HW7.out]; exact heap_alloc_new _ _
      have h67 : Below W6.heap.size W6 W7 := by rw [HW7.out]; exact below_alloc (Below.refl _ _) _
      have hBO : W7.heap[wr.heap.size]? = some (.cells #[.slice none 0 0] 45 (0, 0)) := by
        have h0 := heap_alloc_new wr (.cells #[.slice none 0 0] 45)
        exact (h67.block _ (by omega)).trans ((HG8.out.block _ (by simp) (fun e => by have := hnA _ e.symm; omega)).trans h0)
      have hxs : ∀ W', KeepRow W7.heap.size wr.heap.size W7 W' → ∀ i, i < L.length → ∃ ad, A8 = some ad ∧ W'.cell? (ad.add i) = some (.int .i64 (L.getD i 0)) := fun W' hk i hi => by
        rcases HO8.out.2 with ⟨_, h0⟩ | ⟨g, cap, cur, he, hbg, hgw, _⟩
        · omega
        · have h1 : A8 = some ⟨g, 0, none⟩ := by injection he
          subst h1
          have hne := hnA g (HW8.out.symm.trans rfl)
          have h3 : (L.map (Value.int .i64))[i]? = some (.int .i64 (L.getD i 0)) := by rw [List.getElem?_map, List.getElem?_eq_getElem hi]; simp [List.getD, hi]
          have h4 := HO8.out.cells (g := g) rfl i _ h3
          refine ⟨_, rfl, ?_⟩
          have h5 : W'.heap[g]? = W6.heap[g]? := (hk.2 g (by omega) (by omega)).trans (h67.block g (by omega))
          exact (World.cell?_of_block (a := (⟨g, 0, none⟩ : Addr).add i) (by first | exact h5 | (rw [Addr.add_lit]; exact h5))).trans h4
      have hcov : Below w.heap.size w W1 := ⟨HB1.out.os.trans HBZ.out.os, HB1.out.tape.trans HBZ.out.tape, HB1.out.output.trans HBZ.out.output, Nat.le_trans HBZ.out.size HB1.out.size, fun q hq => (HB1.out.block q (by have := HBZ.out.size; omega)).trans (HBZ.out.block q hq)⟩
      have h17 : Below W1.heap.size W1 W7 := ⟨h67.os.trans (HG8.out.os.trans HBr.out.os), h67.tape.trans (HG8.out.tape.trans HBr.out.tape), h67.output.trans (HG8.out.output.trans HBr.out.output), by have := HBr.out.size; omega, fun q hq => (h67.block q (by have := HBr.out.size; omega)).trans ((HG8.out.block q (by have := HBr.out.size; rw [World.size_alloc]; omega) (fun e => by have := hnA _ e.symm; omega)).trans ((Below.heap_alloc _ _ _ (by have := HBr.out.size; omega)).trans (HBr.out.block q hq)))⟩
      refine rf_all (α := {k : Nat // k + 1 < L.length}) (by decide) rfl (enters_of Try.func52 (by kernel_rfl) rfl)
        (steps_stops 3 (by decide) W6.heap.size W7.heap.size wr.heap.size A8 c8 L (by have := HEL.out; have := srtL_le (endsL (a ++ b)); rw [HLL.out] at this; omega) ⟨by omega, by omega⟩ W7 (Nat.le_refl _) hB7 hxs)
        keepRow_t (keepRow_b (Nat.le_refl _)) (fun _ => rfl)
        (fun pre Wx => (∃ v, Boxed Wx wr.heap.size 45 v ∧ Wx.ownsRow W7.heap.size 60 2 v (outL kp a b L pre).length ((outL kp a b L pre).flatMap cv_span) ∧ True) ∧ KP wr.heap.size W7 Wx)
        (OwnFrom.and (Own.from (holdsRow_own W7.heap.size wr.heap.size 45 60 2 (fun pre : List {k : Nat // k + 1 < L.length} => (outL kp a b L pre).length) (fun pre => (outL kp a b L pre).flatMap cv_span) (fun _ _ => True)) _) (ownFrom_kp (Nat.le_refl _)))
        ⟨⟨.slice none 0 0, hBO, World.ownsRow_nil _ _ _ _, trivial⟩, KP.refl _ _⟩ ?_
      apply Exists.intro
      refine ⟨?assign, ?body, ?done⟩
      case assign =>
        intro l x W K hK
        gi_wp2
        exact hK
      case body =>
        rintro l pre k Wx ⟨⟨v, hv, hown, _⟩, hK⟩ hpl
        have hK1 := hK.size
        have hz0 := HSZ.out; have hz1 := HB1.out.size; have hz2 := h17.size; have hz3 := HBr.out.size
        have hbx : Below Wb.heap.size Wb Wx := ⟨hK.os.trans (h17.os.trans HB1.out.os), hK.tape.trans (h17.tape.trans HB1.out.tape), hK.output.trans (h17.output.trans HB1.out.output), by omega, fun q hq => (hK.block q (by omega) (by omega)).trans ((h17.block q (by omega)).trans (HB1.out.block q hq))⟩
        have z0 : Wx.heap[w.heap.size]? = some (.cells #[.slice A a.length c] 45 (0, 0)) := (hbx.block _ (by omega)).trans HA.out
        have z1 : Wx.heap[w.heap.size + 1]? = some (.cells #[.slice B b.length d] 45 (0, 0)) := (hbx.block _ (by omega)).trans HB.out
        have z2 : Wx.heap[w.heap.size + 1 + 1]? = some (.cells #[.func (.func fk) #[] #[]] 39 (0, 0)) := (hbx.block _ (by omega)).trans HK.out
        have zs : w.heap.size + 4 ≤ Wx.heap.size := by omega
        have c0 : Wx.cell? ⟨w.heap.size, 0, none⟩ = some (.slice A a.length c) := (cell_of_row _ _ 0 _ _ _ z0).trans rfl
        have c1 : Wx.cell? ⟨w.heap.size + 1, 0, none⟩ = some (.slice B b.length d) := (cell_of_row _ _ 0 _ _ _ z1).trans rfl
        have c2 : Wx.cell? ⟨w.heap.size + 1 + 1, 0, none⟩ = some (.func (.func fk) #[] #[]) := (cell_of_row _ _ 0 _ _ _ z2).trans rfl
        have E1 := Lib.hid (Kd.C_below C1.out hbx); have E2 := Lib.hid (Kd.C_below C2.out hbx)
        have hbase : Hid (Below Wx.heap.size Wx Wx.drew) := Lib.hid (Below.drew (Below.refl _ _))
        obtain ⟨fx, hfx⟩ : ∃ fx, L.getD k.1 0 = fx := ⟨_, rfl⟩
        obtain ⟨tx, htx⟩ : ∃ tx, L.getD (k.1 + 1) 0 = tx := ⟨_, rfl⟩
        have HOWN := Lib.hid hown; have HV := Lib.hid hv; have HKP := Lib.hid hK; have HFX := Lib.hid hfx; have HTX := Lib.hid htx; have HBX := Lib.hid hbx; have Z0 := Lib.hid z0; have Z1 := Lib.hid z1; have Z2 := Lib.hid z2; have ZS := Lib.hid zs
        try simp only [List.getD_eq_getElem?_getD] at hfx htx
        try simp only [hfx, htx]
        have hpl2 : pre.length ≤ 10000 := by have := HEL.out; have := srtL_le (endsL (a ++ b)); rw [HLL.out] at this; omega
        clear hown hv hK hfx htx hbx hxs hnA hB7 hBO h67 h17 hcov hK1 hz0 hz1 hz2 hz3 hpl
        gi_wp2_with fail
        have asked : ∀ (o : Oper) (aa : Act) (CC : World → Prop), Oper.askedIn (Fence.wide.inRound l) Try.prog o aa CC := fun _ _ _ _ _ _ _ => trivial
        have he := HE.out
        have g0 : ∀ p : Regrown, (grow (redrawn Wx p.d) p.os).cell? ⟨w.heap.size, 0, none⟩ = some (.slice A a.length c) := fun p => cell_regrown c0 p.d p.os
        have g1 : ∀ p : Regrown, (grow (redrawn Wx p.d) p.os).cell? ⟨w.heap.size + 1, 0, none⟩ = some (.slice B b.length d) := fun p => cell_regrown c1 p.d p.os
        have g2 : ∀ p : Regrown, (grow (redrawn Wx p.d) p.os).cell? ⟨w.heap.size + 1 + 1, 0, none⟩ = some (.func (.func fk) #[] #[]) := fun p => cell_regrown c2 p.d p.os
        clear c0 c1 c2
        refine QR.region_quiet_below rfl (by kernel_rfl) (by kernel_rfl) ?_
        repeat (refine wpQuietIn_step (asked _ _ _) (fun K hK => ?_); go_simp; first | (refine hK _ ?_; clear hK K) | (apply Exists.intro; refine ⟨fun _ => ?_, hK _ ?_⟩; (first | (exact QR.calls_regrown (callsIn_wide.2 (region_in.callsL A c a fx _ (Kd.C_below E1.out (below_regrown Wx _ _)) (by omega)))) | (exact QR.calls_regrown (callsIn_wide.2 (region_in.callsL B d b fx _ (Kd.C_below E2.out (below_regrown Wx _ _)) (by omega)))) | (exact QR.calls_same (callsIn_wide.2 (HF.out _ _ _)))); clear hK K))
        refine wpQuietIn_nil ?_
        rintro _ ⟨p, rfl⟩
        clear g0 g1 g2 he asked
        obtain ⟨Wn, hWn⟩ : ∃ Wn, grow (redrawn Wx p.d) p.os = Wn := ⟨_, rfl⟩
        have hbn : Below Wx.heap.size Wx Wn := by rw [← hWn]; exact below_regrown Wx _ _
        rw [hWn]
        clear hWn
        obtain ⟨A', c', rfl⟩ := own_slice HOWN.out
        obtain ⟨out, hout⟩ : ∃ out, outL kp a b L pre = out := ⟨_, rfl⟩
        have hstep : outL kp a b L (pre ++ [k]) = stepR kp a b out fx tx := by
          rw [← hout, ← HFX.out, ← HTX.out]; unfold outL; rw [List.foldl_append]; rfl
        rw [hout] at HOWN HV
        have hgn := grownBy_below_ hbn
        have HVN := Lib.hid (HV.out.kept hgn (by simp))
        have HON := Lib.hid (HOWN.out.kept hgn (by cases h : (Value.slice A' out.length c').ownBlock <;> simp [h]))
        have HKN := Lib.hid (HKP.out.trans (KP.of_below hbn))
        have HKO : Hid (KeepsOthers Wx Wn) := Lib.hid (KeepsOthers.of_grownBy hgn (fun j o h _ => by cases h))
        have HKR : Hid (KeepRow W7.heap.size wr.heap.size Wx Wn) := Lib.hid (keepRow_below HKP.out.size hbn)
        have HST := Lib.hid hstep
        have HS7 : Hid (W7.heap.size ≤ Wn.heap.size) := Lib.hid (Nat.le_trans HKP.out.size hbn.size)
        have HPN : Hid (pre.length ≤ 10000) := Lib.hid hpl2
        clear hgn hstep hbn HV HOWN HKP hpl2
        have hbc := HVN.out.cell; have hbf := HVN.out.frozen
        by_cases hkp : kp (inS a fx) (inS b fx) = true
        rotate_left
        · have hkf : kp (inS a fx) (inS b fx) = false := by simpa using hkp
          simp only [hkf, Bool.not_false]
          gi_wp2
          refine ⟨HKO.out, HKR.out, ⟨_, HVN.out, ?_, trivial⟩, HKN.out⟩
          rw [HST.out, show stepR kp a b out fx tx = out from by unfold stepR; rw [hkf]; rfl]
          exact HON.out
        simp only [hkp, Bool.not_true]
        have HOL : Hid (out.length ≤ 10000) := Lib.hid (by rw [← hout]; exact Nat.le_trans (outL_len kp a b L pre) HPN.out)
        clear hout
        obtain ⟨i1, hi1, hzz1⟩ := Option.map_eq_some_iff.1 info60
        simp only [Prod.mk.injEq] at hzz1
        obtain ⟨hy0, hy1, hy2⟩ := hzz1
        have HJ := Lib.hid hi1
        have HJ0 := Lib.hid hy0
        have HJ1 := Lib.hid hy1
        have HJ2 := Lib.hid hy2
        clear hi1 hy0 hy1 hy2
        have HNB := Lib.hid (World.news_of_block (heap_alloc_new Wn (.cells #[.int .i64 fx, .int .i64 tx] 60)))
        have HX3 : Hid (W7.heap.size ≤ (Wn.alloc (.cells #[.int .i64 fx, .int .i64 tx] 60)).heap.size) := Lib.hid (by have := HS7.out; simp; omega)
        have HLT : Hid (wr.heap.size < W7.heap.size) := Lib.hid (by omega)
        clear hs7 hs6
        rcases List.eq_nil_or_concat out with rfl | ⟨ys, x, hyx⟩
        · have HX1 : Hid ((0 : Nat) + 1 ≤ maxLen) := Lib.hid (by decide)
          have HX2 : Hid (((0 : Nat) + 1) * 16 ≤ 140737488355328) := Lib.hid (by decide)
          have hst2 : stepR kp a b [] fx tx = [] ++ [⟨fx, tx⟩] := by unfold stepR; rw [hkp]; rfl
          have HS2 := Lib.hid hst2; clear hst2
          simp only [List.length_nil] at HVN HON hbc
          gi_wp2_with (gi_at_builtin; refine wpListIn_append_own _ rfl _ _ 45 rfl W7.heap.size 60 i1 (.agg #[.int .i64 0, .int .i64 0]) 2 16 Try.underlying45 HJ.out HJ0.out HJ1.out HJ2.out rfl (by decide) _ _ _ rfl (HON.out.alloc _) ⟨Wn.heap.size, 0, none⟩ 1 1 [.int .i64 fx, .int .i64 tx] rfl rfl HNB.out (by simp [Value.oneCell']) HX1.out HX2.out HX3.out ?_; intro v' w2 hown' hgrow _; obtain ⟨g', cap', rfl⟩ := ownsRow_succ hown'; obtain ⟨hv1, hv2, hr2, hk2, hkp⟩ := boxed_appended (HVN.out.alloc _) (by decide) (HON.out.alloc _) hown' hgrow; have hkp2 := hkp W7 (HKN.out.alloc _) (Nat.le_refl _); have hc1 := hv1.cell; have hf1 := hv1.frozen; have HV2 := Lib.hid hv2; have HR2 := Lib.hid hr2; have HK2 := Lib.hid hk2; have HKP2 := Lib.hid hkp2; have HGS := Lib.hid hgrow.size; clear hv1 hv2 hr2 hk2 hkp hkp2 hown' hgrow)
          refine ⟨HKO.out.trans ((KeepsOthers.alloc _ _).trans HK2.out), keepRow_t HKR.out ⟨?_, fun q hq hn => (HKP2.out.block q hq hn).trans (HKN.out.block q hq hn).symm⟩, ⟨_, HV2.out, ?_⟩, HKP2.out⟩
          · have h1 := HGS.out; have h2 := HK2.out.size; simp [World.setCell] at h1 ⊢; omega
          · have hfin : (stepR kp a b _ fx tx).length = _ ∧ (stepR kp a b _ fx tx).flatMap cv_span = _ := ⟨congrArg List.length (HS2.out), congrArg (List.flatMap cv_span) (HS2.out)⟩
            rw [HST.out, hfin.1, hfin.2, List.flatMap_append, List.length_append]
            first | exact HR2.out | exact ⟨HR2.out, trivial⟩ | (rw [HOLJ.out]; first | exact HR2.out | exact ⟨HR2.out, trivial⟩)
        rw [List.concat_eq_append] at hyx
        obtain ⟨x0, x1⟩ := x
        obtain ⟨j, hj⟩ : ∃ j, ys.length = j := ⟨_, rfl⟩
        have hol : out.length = j + 1 := by rw [hyx, List.length_append, hj]; rfl
        have hfl : (ys.flatMap cv_span).length = j * 2 := by rw [← hj]; clear HVN HON hbc hyx hol hj; induction ys with | nil => rfl | cons z zs ih => rw [List.flatMap_cons, List.length_append, ih, List.length_cons]; simp [cv_span]; omega
        have hfo : out.flatMap cv_span = ys.flatMap cv_span ++ [.int .i64 x0, .int .i64 x1] := by rw [hyx, List.flatMap_append]; rfl
        have hj9 : j ≤ 10000 := by have := HOL.out; omega
        rw [hol] at hbc HVN HON
        obtain ⟨g, hg⟩ : ∃ g, A' = some ⟨g, 0, none⟩ := by rcases HON.out.2 with ⟨_, h0⟩ | ⟨g, cap, cur, he, _⟩; (omega); injection he with h1; exact ⟨g, h1⟩
        subst hg
        have x1c : Wn.cell? ⟨g, j * 2 + 1, none⟩ = some (.int .i64 x1) := by
          rw [HON.out.cellAt (j * 2 + 1) (by omega), hfo, List.getElem?_append_right (by omega), hfl, show j * 2 + 1 - j * 2 = 1 by omega]; rfl
        have x1f := HON.out.frozenAt (j * 2 + 1)
        have HGB : Hid (W7.heap.size ≤ g) := Lib.hid (by rcases HON.out.2 with ⟨h0, _⟩ | ⟨g1, cap, cur, he, hb1, _⟩; (cases h0); injection he with h1; injection h1 with h1; injection h1 with h1; omega)
        have HJL := Lib.hid hj; have HFO := Lib.hid hfo; have HYX := Lib.hid hyx; have HFL := Lib.hid hfl; have HOLJ := Lib.hid hol
        clear hfo hyx hfl hol hj HOL
        have p0 : (0 : Int) ≤ (j : Int) := by omega
        have p1 : (j : Int) ≤ 10000 := by omega
        have p2 : (0 : Int) < (j : Int) + 1 := by omega
        have d2 : decide ((0 : Int) < (j : Int) + 1) = true := decide_eq_true p2
        by_cases hx1 : x1 = fx
        · subst hx1
          have hsd := HON.out.stored (j * 2 + 1) (.int .i64 tx)
          have HSD := Lib.hid hsd; clear hsd
          gi_wp2
          refine ⟨HKO.out.trans (KeepsOthers.setCell _ _ _), keepRow_t HKR.out ⟨HSD.out.2.size, fun q hq hn => HSD.out.2.block q (by have := HS7.out; omega) (fun h => by injection h with h; have := HGB.out; omega)⟩, ⟨_, HVN.out.kept HSD.out.2 (fun h => by injection h with h; have := HGB.out; have := HLT.out; omega), ?_⟩, ⟨HSD.out.2.os.trans HKN.out.os, HSD.out.2.tape.trans HKN.out.tape, HSD.out.2.output.trans HKN.out.output, Nat.le_trans HKN.out.size HSD.out.2.size, fun q hq hn => (HSD.out.2.block q (by have := HS7.out; omega) (fun h => by injection h with h; have := HGB.out; omega)).trans (HKN.out.block q hq hn)⟩⟩
          have hl2 : (stepR kp a b out x1 tx) = ys ++ [⟨x0, tx⟩] := by unfold stepR; rw [hkp, if_pos rfl, HYX.out, if_pos (by simp)]; simp
          have hl3 : (ys ++ [(⟨x0, tx⟩ : S60)]).length = j + 1 := by rw [List.length_append]; have := HJL.out; simp; omega
          have hl4 : (ys ++ [(⟨x0, tx⟩ : S60)]).flatMap cv_span = (out.flatMap cv_span).set (j * 2 + 1) (.int .i64 tx) := by rw [HFO.out, List.set_append_right _ _ (by rw [HFL.out]; omega), HFL.out, show j * 2 + 1 - j * 2 = 1 by omega, List.flatMap_append]; rfl
          rw [HST.out, hl2, hl3, hl4]
          first | exact HSD.out.1 | exact ⟨HSD.out.1, trivial⟩
        · have d3 : decide (x1 = fx) = false := decide_eq_false hx1
          have HX1 : Hid ((j + 1) + 1 ≤ maxLen) := Lib.hid (by unfold maxLen; omega)
          have HX2 : Hid (((j + 1) + 1) * 16 ≤ 140737488355328) := Lib.hid (by omega)
          have hst2 : stepR kp a b out fx tx = out ++ [⟨fx, tx⟩] := by unfold stepR; rw [hkp, if_pos rfl, if_neg]; rintro ⟨_, h⟩; rw [HYX.out] at h; simp at h; exact hx1 h
          have HS2 := Lib.hid hst2; clear hst2
          have d4 : (x1 == fx) = false := by simpa using hx1
          gi_upto_region 15 with (fail)
          obtain ⟨A2, hA2⟩ : ∃ A2, (some ⟨g, 0, none⟩ : Option Addr) = A2 := ⟨_, rfl⟩
          rw [hA2] at HVN HON hbc
          try rw [hA2]
          clear hA2 x1c x1f HGB
          gi_wp2_with (gi_at_builtin; refine wpListIn_append_own _ rfl _ _ 45 rfl W7.heap.size 60 i1 (.agg #[.int .i64 0, .int .i64 0]) 2 16 Try.underlying45 HJ.out HJ0.out HJ1.out HJ2.out rfl (by decide) _ _ _ rfl (HON.out.alloc _) ⟨Wn.heap.size, 0, none⟩ 1 1 [.int .i64 fx, .int .i64 tx] rfl rfl HNB.out (by simp [Value.oneCell']) HX1.out HX2.out HX3.out ?_; intro v' w2 hown' hgrow _; obtain ⟨g', cap', rfl⟩ := ownsRow_succ hown'; obtain ⟨hv1, hv2, hr2, hk2, hkp⟩ := boxed_appended (HVN.out.alloc _) (by decide) (HON.out.alloc _) hown' hgrow; have hkp2 := hkp W7 (HKN.out.alloc _) (Nat.le_refl _); have hc1 := hv1.cell; have hf1 := hv1.frozen; have HV2 := Lib.hid hv2; have HR2 := Lib.hid hr2; have HK2 := Lib.hid hk2; have HKP2 := Lib.hid hkp2; have HGS := Lib.hid hgrow.size; clear hv1 hv2 hr2 hk2 hkp hkp2 hown' hgrow)
          refine ⟨HKO.out.trans ((KeepsOthers.alloc _ _).trans HK2.out), keepRow_t HKR.out ⟨?_, fun q hq hn => (HKP2.out.block q hq hn).trans (HKN.out.block q hq hn).symm⟩, ⟨_, HV2.out, ?_⟩, HKP2.out⟩
          · have h1 := HGS.out; have h2 := HK2.out.size; simp [World.setCell] at h1 ⊢; omega
          · have hfin : (stepR kp a b _ fx tx).length = _ ∧ (stepR kp a b _ fx tx).flatMap cv_span = _ := ⟨congrArg List.length (HS2.out), congrArg (List.flatMap cv_span) (HS2.out)⟩
            rw [HST.out, hfin.1, hfin.2, List.flatMap_append, List.length_append]
            first | exact HR2.out | exact ⟨HR2.out, trivial⟩ | (rw [HOLJ.out]; first | exact HR2.out | exact ⟨HR2.out, trivial⟩)
      case done =>
        rintro D xs Wx hD hS ⟨⟨v, hv, hown, _⟩, hK⟩ hDD
        have hcv := hv.cell
        rw [outL_all kp a b L xs hS, ← HLL.out] at hown
        change Wx.ownsRow _ _ _ _ (rowS kp a b).length ((rowS kp a b).flatMap cv_span) at hown
        obtain ⟨A', c', rfl⟩ := own_slice hown
        have HOWN := Lib.hid hown
        have HK9 := Lib.hid hK
        have HDD := Lib.hid hDD
        have HCOV := Lib.hid hcov
        have H17 := Lib.hid h17
        clear hown hK hDD hcov h17 h67 hB7 hBO hxs hnA hv
        gi_wp2
        refine ⟨by first | (simp; done) | rfl | trivial | omega, .inl ⟨_, _, rfl, run_takeDeferred HDD.out, ?_⟩⟩
        have hbx := belowK_b (w := W7) (Nat.le_refl _) Wx D (.deferred (some [])) (.deferred none) hD HDD.out rfl rfl
        have hDD := HDD.out
        have hne : some D ≠ (Value.slice A' (rowS kp a b).length c').ownBlock := by
          intro h
          rcases HOWN.out.2 with ⟨he, _⟩ | ⟨g', cap, cur, he, _, hg', _⟩
          · rw [he] at h; cases h
          · rw [he] at h
            obtain rfl : D = g' := by simpa [Value.ownBlock] using h
            rw [hDD] at hg'; cases hg'
        refine ⟨_, results_tmp rfl _ _ _, _, rfl, ?_, ?_⟩
        · have h1 := HOWN.out.kept (grownBy_putObj' Wx D (.deferred none)) (.inr hne.symm)
          exact ⟨h1.1, h1.2.imp id (fun ⟨g', cap, cur, e1, e2, e3⟩ => ⟨g', cap, cur, e1, by have := HCOV.out.size; have := H17.out.size; omega, e3⟩)⟩
        · have hq1 := HCOV.out; have hq2 := H17.out; have hq3 := HK9.out; have hz1 := hq1.size; have hz2 := hq2.size; have hz3 := HBr.out.size
          exact ⟨hbx.os.trans (hq3.os.trans (hq2.os.trans hq1.os)), hbx.tape.trans (hq3.tape.trans (hq2.tape.trans hq1.tape)), hbx.output.trans (hq3.output.trans (hq2.output.trans hq1.output)), Nat.le_trans hz1 (Nat.le_trans hz2 (Nat.le_trans hq3.size hbx.size)), fun q hq => (hbx.block q (by omega)).trans ((hq3.block q (by omega) (by omega)).trans ((hq2.block q (by omega)).trans (hq1.block q hq)))⟩
end

end Go.Proofs.Ytkobiblgbpnlaaa.X
