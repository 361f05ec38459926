/- What each Go function that these laws use answers: as a Lean function, with the proof that the machine's call comes to it. Written by a program of this session (xprint.py). -/
import Derived.Test.YtkobiblgbpnlaaaXx0
import Derived.Test.YtkobiblgbpnlaaaXx3
import Derived.Test.YtkobiblgbpnlaaaXx4
import Derived.Test.YtkobiblgbpnlaaaXx5
import Derived.Test.YtkobiblgbpnlaaaXx13
import Derived.Test.YtkobiblgbpnlaaaXx15
import Derived.Test.YtkobiblgbpnlaaaXx16
import Derived.Test.YtkobiblgbpnlaaaXx17
namespace Go.Proofs.Ytkobiblgbpnlaaa.X
open Go.RowKit Go.Proofs.YtkobiblgbpnlaaaW.PrintWords Go.Proofs.YtkobiblgbpnlaaaW.PrintLast Go.Proofs.YtkobiblgbpnlaaaW.PrintMore
attribute [local go_sem] max2_int min2_int max_two min_two max_three min_three max_four min_four   -- for this text's walks alone
set_option linter.unusedVariables false
set_option linter.unusedSimpArgs false

/-! ### region_combine: function 25 -/
section
def cv_rect (x : S26) : List Value := [.int .i64 x.f0, .int .i64 x.f1, .int .i64 x.f2, .int .i64 x.f3]
theorem cells_rect {w : World} {A : Option Addr} {xs : List S26} (h : Kd.C k26 w A xs.length xs) (hp : 0 < xs.length) : ∃ ad, A = some ad ∧ ∀ j u, (xs.flatMap cv_rect)[j]? = some u → w.cell? (ad.add j) = some u := by
 refine cells_get (d := k26) z26 cv_rect 4 (fun _ => rfl) (by decide) (fun i h0 h1 => ?_) rfl hp
 obtain ⟨ad, c, e, _, hK, hc0⟩ := Kd.C_get h z26 i h0 h1
 obtain rfl := k26_open hK
 exact ⟨ad, e, hc0⟩
theorem append_rect {ops : Array Oper} {rest : List Oper} {o : Oper} {a : Act} {Q : Exit → Act → World → Prop} {w : World} (hgd : o.guard = none) (s x : Operand) (ho : o.op = .call { callee := .builtin .append, args := #[s, x], argTypes := #[22, 22] })
  (base : Nat) (v : Value) (n : Nat) (xs : List Value) (hs : a.eval s = v) (hown : w.ownsRow base 26 4 v n xs) (A : Option Addr) (c : Nat) (l : List S26) (hx : a.eval x = .slice A l.length c) (hC : Kd.C k26 w A l.length l) (hn : n + l.length ≤ 1000000000) (hbase : base ≤ w.heap.size)
  (h : ∀ v' w', w'.ownsRow base 26 4 v' (n + l.length) (xs ++ l.flatMap cv_rect) → w.grownBy w' v.ownBlock → (v'.ownBlock = v.ownBlock ∨ ∃ g, v'.ownBlock = some g ∧ w.heap.size ≤ g) → wpList Try.prog ops Q rest (a.put o.dst v') w') : wpList Try.prog ops Q (o :: rest) a w := by
 obtain ⟨i0, hi, hzz⟩ := Option.map_eq_some_iff.1 info26
 simp only [Prod.mk.injEq] at hzz
 obtain ⟨hz0, hz1, hz2⟩ := hzz
 by_cases h0 : l.length = 0
 ·have hl : l = [] := List.length_eq_zero_iff.1 h0
  subst hl
  refine Lib.wpList_append_run w hgd s x 22 22 ho v (.slice A 0 c) hs hx v w (run_append_empty base 22 o.type 26 i0 4 Try.underlying22 hi v n xs hown A c) (h v w ?_ ⟨rfl, rfl, rfl, Nat.le_refl _, fun _ _ _ => rfl⟩ (.inl rfl))
  simpa using hown
 ·obtain ⟨ad, rfl, hc⟩ := cells_rect hC (by omega)
  refine wpList_append_lies w hgd s x 22 ho base 26 i0 _ 4 32 Try.underlying22 hi hz0 hz1 hz2 rfl (by decide) v n xs hs hown ad l.length c (l.flatMap cv_rect) hx (by rw [flat_len cv_rect 4 (fun _ => rfl)]) hc (fun u hu => ?_) (by omega) (by unfold maxLen; omega) (by omega) hbase _ rfl ?_
  ·obtain ⟨y, _, hy⟩ := List.mem_flatMap.1 hu
   simp only [cv_rect, List.mem_cons, List.not_mem_nil, or_false] at hy
   rcases hy with rfl | rfl | rfl | rfl <;> rfl
  ·intro g cap w' h1 h2 h3 h4
   refine h _ _ h1 h2 ?_
   rcases h3 with h3 | rfl
   ·exact .inl h3.symm
   ·exact .inr ⟨_, rfl, Nat.le_refl _⟩
theorem grow_rect (n : Nat) (w : World) (hn : n ≤ 1000000) :
  Calls Try.prog 51 #[.slice none 0 0, .int .i64 n] w fun e w' => ∃ v, e = .returned v ∧ w'.ownsRow w.heap.size 26 4 v 0 [] ∧ Below w.heap.size w w' := by
 have t0 : wrap64 ((n : Int) - 0) = (n : Int) := by unfold wrap64; omega
 by_cases h0 : n = 0
 ·subst h0
  go_enter Try.func51, Try.ntmps51
  go_wp2_with fail
  go_ret
  exact ⟨_, rfl, World.ownsRow_nil _ _ _ _, Below.refl _ _⟩
 ·have d0 : decide ((n : Int) < 0) = false := decide_eq_false (by omega)
  have d1 : decide ((n : Int) > 0) = true := decide_eq_true (by omega)
  have d2 : decide (0 < n) = true := decide_eq_true (by omega)
  go_enter Try.func51, Try.ntmps51
  obtain ⟨i0, hi, hzz⟩ := Option.map_eq_some_iff.1 info26
  simp only [Prod.mk.injEq] at hzz
  obtain ⟨hz0, hz1, hz2⟩ := hzz
  have hrun := Lib.run_append_nil_zeros (P := Try.prog) w 22 3 22 26 i0 (.agg #[.int .i64 0, .int .i64 0, .int .i64 0, .int .i64 0]) .i64 .i64 Try.underlying22 Try.underlying3 hi hz0 n (by omega) (by rw [hz1]; decide) (by omega) (by rw [hz2]; omega)
  have HRUN := Lib.hid hrun
  obtain ⟨gc, hgc⟩ : ∃ gc, grownCap w n 0 26 = gc := ⟨_, rfl⟩
  rw [hgc] at hrun
  clear hrun hi hz0 hz1 hz2
  go_wp2_with (at_builtin; refine Lib.wpList_append_run _ rfl _ _ _ _ rfl _ _ rfl rfl _ _ HRUN.out ?_)
  go_ret
  have hge : n ≤ gc := by rw [← hgc]; exact grownCap_ge w n 0 _
  have hle : gc ≤ maxLen := by rw [← hgc]; exact grownCap_le_maxLen w n 0 _ (by unfold maxLen; omega)
  refine ⟨_, rfl, World.ownsRow.drew ⟨rfl, .inr ⟨w.heap.size, gc, _, rfl, Nat.le_refl _, heap_alloc_new w _, Nat.zero_le _, hle, ?_, by simp⟩⟩, Below.drew (below_alloc (Below.refl _ _) _)⟩
  rw [Array.size_append, size_zeroCells, size_zeroCells]
  show n * 4 + (gc - n) * 4 = gc * 4
  omega
set_option maxHeartbeats 4000000 in
set_option maxRecDepth 100000 in
theorem concat_rect (A B : Option Addr) (c d : Nat) (xs ys : List S26) (b : Nat) (w : World) (hb : w.heap[b]? = some (.cells #[.slice A xs.length c, .slice B ys.length d] 22 (0, 0))) (h1 : Kd.C k26 w A xs.length xs) (h2 : Kd.C k26 w B ys.length ys) (hc : xs.length ≤ c) (hd : ys.length ≤ d) (hl : xs.length + ys.length ≤ 1000000) :
  Calls Try.prog 40 #[.slice (some ⟨b, 0, none⟩) 2 2] w fun e w' => ∃ v, e = .returned v ∧ w'.ownsRow w.heap.size 26 4 v (xs.length + ys.length) ((xs ++ ys).flatMap cv_rect) ∧ Below w.heap.size w w' := by
 obtain ⟨i0, hi, hzz⟩ := Option.map_eq_some_iff.1 info26
 simp only [Prod.mk.injEq] at hzz
 obtain ⟨hz0, hz1, hz2⟩ := hzz
 have HI := Lib.hid hi
 have HI0 := Lib.hid hz0
 have HI1 := Lib.hid hz1
 have HI2 := Lib.hid hz2
 have HB := Lib.hid hb
 have H1 := Lib.hid h1
 have H2 := Lib.hid h2
 have y0 : w.cell? ⟨b, 0, none⟩ = some (.slice A xs.length c) := (blk_cell hb 0).trans rfl
 have y1 : w.cell? ⟨b, 1, none⟩ = some (.slice B ys.length d) := (blk_cell hb 1).trans rfl
 clear hi hz0 hz1 hz2 hb h1 h2
 obtain ⟨N, hN⟩ : ∃ N : Nat, N = xs.length + ys.length := ⟨_, rfl⟩
 have w1 : wrap64 ((0 : Int) + (xs.length : Int)) = (xs.length : Int) := by unfold wrap64; omega
 have w2 : wrap64 ((xs.length : Int) + (ys.length : Int)) = (N : Int) := by unfold wrap64; omega
 have w3 : (xs.length : Int) + (ys.length : Int) = (N : Int) := by omega
 have d1 : decide ((xs.length : Int) < 0) = false := decide_eq_false (by omega)
 have d2 : decide ((N : Int) < 0) = false := decide_eq_false (by omega)
 have HN := Lib.hid hN
 have HLN := Lib.hid (show N ≤ 1000000 by omega)
 rw [← hN]
 clear hN
 go_enter Try.func40, Try.ntmps40
 go_wp2_with fail
 refine wp_loop_rounds 3 ?_
 rw [rounds_succ]
 go_wp2_with fail
 rw [rounds_succ]
 go_wp2_with fail
 rw [rounds_succ]
 go_wp2_with fail
 clear w1 w2 w3 d1 d2
 refine (grow_rect N w HLN.out).mono ?_
 rintro e W1 ⟨v1, rfl, ho, hbl⟩
 obtain ⟨A1, c1, rfl⟩ : ∃ A c, v1 = .slice A 0 c := by rcases ho.2 with ⟨rfl, _⟩ | ⟨g, cap, _, rfl, _⟩ <;> exact ⟨_, _, rfl⟩
 have HO1 := Lib.hid ho
 have HL1 := Lib.hid hbl
 have HB1 := Lib.hid (blk_below HB.out hbl)
 have HC1 := Lib.hid (Kd.C_below H1.out hbl)
 have HD1 := Lib.hid (Kd.C_below H2.out hbl)
 clear ho hbl y0 y1
 have y0 : W1.cell? ⟨b, 0, none⟩ = some (.slice A xs.length c) := (blk_cell HB1.out 0).trans rfl
 go_wp2_with fail
 refine wp_loop_rounds 3 ?_
 rw [rounds_succ]
 go_wp2_with (at_builtin; refine append_rect rfl _ _ rfl w.heap.size (.slice A1 0 c1) 0 [] (by simp [Act.eval, Act.put]) HO1.out A c xs (by simp [Act.eval, Act.put]) HC1.out (by omega) HL1.out.size ?_; intro v2 W2 ho2 hg2 hat2; have HO2 := Lib.hid ho2; have HG2 := Lib.hid hg2; clear ho2 hg2 hat2)
 have HL2 := Lib.hid (HL1.out.grown HG2.out HL1.out.size (own_base HO1.out))
 have hbl := blk_lt HB.out
 have hb2 : W2.heap[b]? = some (.cells #[.slice A xs.length c, .slice B ys.length d] 22 (0, 0)) := (HL2.out.block b hbl).trans HB.out
 have y1 : W2.cell? ⟨b, 1, none⟩ = some (.slice B ys.length d) := (blk_cell hb2 1).trans rfl
 have HD2 := Lib.hid (Kd.C_below H2.out HL2.out)
 clear y0 hb2 hbl
 obtain ⟨A2, c2, rfl⟩ : ∃ A c, v2 = .slice A (0 + xs.length) c := by rcases HO2.out.2 with ⟨rfl, h⟩ | ⟨g, cap, _, rfl, _⟩; (exact ⟨none, 0, by rw [h]⟩); exact ⟨_, _, rfl⟩
 rw [rounds_succ]
 go_wp2_with (at_builtin; refine append_rect rfl _ _ rfl w.heap.size (.slice A2 (0 + xs.length) c2) (0 + xs.length) _ (by simp [Act.eval, Act.put]) HO2.out B d ys (by simp [Act.eval, Act.put]) HD2.out (by omega) HL2.out.size ?_; intro v3 W3 ho3 hg3 hat3; have HO3 := Lib.hid ho3; have HG3 := Lib.hid hg3; clear ho3 hg3 hat3)
 rw [rounds_succ]
 go_wp2_with fail
 go_ret
 refine ⟨v3, rfl, ?_, HL2.out.grown HG3.out HL2.out.size (own_base HO2.out)⟩
 have h3 := HO3.out
 rw [Nat.zero_add, List.nil_append, ← List.flatMap_append] at h3
 rw [HN.out]
 exact h3
end
section
def cntS (r : S26) : Bool := (decide (-1048576 ≤ r.f0) && decide (r.f0 ≤ 1048576) && decide (1 ≤ r.f2) && decide (r.f2 ≤ 2097152) && decide (r.f0 + r.f2 ≤ 1048576)) && (decide (-1048576 ≤ r.f1) && decide (r.f1 ≤ 1048576) && decide (1 ≤ r.f3) && decide (r.f3 ≤ 2097152) && decide (r.f1 + r.f3 ≤ 1048576))
theorem cntS_iff (r : S26) : cntS r = true ↔ (-1048576 ≤ r.f0 ∧ r.f0 ≤ 1048576 ∧ 1 ≤ r.f2 ∧ r.f2 ≤ 2097152 ∧ r.f0 + r.f2 ≤ 1048576) ∧ (-1048576 ≤ r.f1 ∧ r.f1 ≤ 1048576 ∧ 1 ≤ r.f3 ∧ r.f3 ≤ 2097152 ∧ r.f1 + r.f3 ≤ 1048576) := by
 simp [cntS, and_assoc]
def piecesS (l : List S26) (y : Int) : List S60 := (l.filter fun r => decide (r.f1 ≤ y) && decide (y < r.f1 + r.f3)).map fun r => ⟨r.f0, r.f0 + r.f2⟩
def rectsS (f t : Int) (s : List S60) : List S26 := s.map fun x => ⟨x.f0, f, wrap64 (x.f1 - x.f0), wrap64 (t - f)⟩
theorem wrap_id {x : Int} (h : -9223372036854775808 ≤ x) (h2 : x ≤ 9223372036854775807) : wrap64 x = x := by unfold wrap64; omega
theorem near_f (a b : Int) : region_near.f a b = some (decide (-1048576 ≤ a) && decide (a ≤ 1048576) && decide (1 ≤ b) && decide (b ≤ 2097152) && decide (a + b ≤ 1048576)) := by
 unfold region_near.f
 by_cases h1 : -1048576 ≤ a
 ·by_cases h2 : a ≤ 1048576
  ·by_cases h3 : 1 ≤ b
   ·by_cases h4 : b ≤ 2097152
    ·rw [wrap_id (by omega) (by omega)]; simp [h1, h2, h3, h4]
    ·simp [h1, h2, h3, h4]
   ·simp [h1, h2, h3]
  ·simp [h1, h2]
 ·simp [h1]
theorem counts_f (r : S26) : region_counts.f r.f0 r.f1 r.f2 r.f3 = some (cntS r) := by
 unfold region_counts.f
 rw [near_f, near_f]
 unfold cntS
 cases (decide (-1048576 ≤ r.f0) && decide (r.f0 ≤ 1048576) && decide (1 ≤ r.f2) && decide (r.f2 ≤ 2097152) && decide (r.f0 + r.f2 ≤ 1048576)) <;> simp
theorem rd26_at (l : List S26) (i : Nat) (h : i < l.length) : rd_T26 l (i : Int) = l[i] := by
 unfold rd_T26; rw [Int.toNat_natCast, List.getD_eq_getElem?_getD, List.getElem?_eq_getElem h]; rfl
theorem rd60_at (l : List S60) (i : Nat) (h : i < l.length) : rd_T60 l (i : Int) = l[i] := by
 unfold rd_T60; rw [Int.toNat_natCast, List.getD_eq_getElem?_getD, List.getElem?_eq_getElem h]; rfl
theorem wrap_next (i : Nat) (h : i ≤ 100000000000) : wrap64 ((i : Int) + 1) = ((i + 1 : Nat) : Int) := by rw [wrap_id (by omega) (by omega)]; push_cast; rfl
theorem counting_l0 (l : List S26) : ∀ (m k i : Nat) (out : List S26), i + m = l.length → m < k → i + m ≤ 1000000000 → out.length + m ≤ 1000000000 → region_counting.l0 k out l (l.length : Int) (i : Int) = some (out ++ (l.drop i).filter cntS) := by
 intro m
 induction m with
 | zero =>
  intro k i out h hk _ _
  obtain ⟨k, rfl⟩ : ∃ q, k = q + 1 := ⟨k - 1, by omega⟩
  rw [region_counting.l0, if_neg (by omega), List.drop_of_length_le (by omega)]; simp
 | succ m ih =>
  intro k i out h hk hi ho
  obtain ⟨k, rfl⟩ : ∃ q, k = q + 1 := ⟨k - 1, by omega⟩
  have hlt : i < l.length := by omega
  rw [region_counting.l0, if_pos (by omega), if_pos (by omega), if_pos (by omega), rd26_at l i hlt, counts_f, Option.bind_some, wrap_next i (by omega), List.drop_eq_getElem_cons hlt, List.filter_cons]
  by_cases hc : cntS l[i] = true
  ·rw [if_pos hc, if_pos hc, if_pos (by omega), ih k (i + 1) _ (by omega) (by omega) (by omega) (by simp; omega)]; simp
  ·rw [if_neg hc, if_neg hc, ih k (i + 1) _ (by omega) (by omega) (by omega) (by omega)]
theorem counting_f (l : List S26) (k : Nat) (hk : l.length < k) (hl : l.length ≤ 1000000000) : region_counting.f k l = some (l.filter cntS) := by
 have h := counting_l0 l l.length k 0 [] (by omega) hk (by omega) (by simp; omega)
 rw [List.nil_append, List.drop_zero] at h; exact h
theorem pieces_l0 (l : List S26) (y : Int) (hc : ∀ r ∈ l, cntS r = true) : ∀ (m k i : Nat) (out : List S60), i + m = l.length → m < k → i + m ≤ 1000000000 → out.length + m ≤ 1000000000 → region_pieces.l0 k y out l (l.length : Int) (i : Int) = some (out ++ piecesS (l.drop i) y) := by
 intro m
 induction m with
 | zero =>
  intro k i out h hk _ _
  obtain ⟨k, rfl⟩ : ∃ q, k = q + 1 := ⟨k - 1, by omega⟩
  rw [region_pieces.l0, if_neg (by omega), List.drop_of_length_le (by omega)]; simp [piecesS]
 | succ m ih =>
  intro k i out h hk hi ho
  obtain ⟨k, rfl⟩ : ∃ q, k = q + 1 := ⟨k - 1, by omega⟩
  have hlt : i < l.length := by omega
  have hcx := (cntS_iff _).1 (hc _ (List.getElem_mem hlt))
  rw [region_pieces.l0, if_pos (by omega), if_pos (by omega), if_pos (by omega), rd26_at l i hlt, wrap_next i (by omega), List.drop_eq_getElem_cons hlt]
  rw [wrap_id (x := l[i].f1 + l[i].f3) (by omega) (by omega), wrap_id (x := l[i].f0 + l[i].f2) (by omega) (by omega)]
  unfold piecesS
  rw [List.filter_cons]
  by_cases h1 : l[i].f1 ≤ y
  ·by_cases h2 : y < l[i].f1 + l[i].f3
   ·rw [if_pos h1, if_pos h2, if_pos (by omega), ih k (i + 1) _ (by omega) (by omega) (by omega) (by simp; omega)]; simp [h1, h2, piecesS]
   ·rw [if_pos h1, if_neg h2, ih k (i + 1) _ (by omega) (by omega) (by omega) (by omega)]; simp [h1, h2, piecesS]
  ·rw [if_neg h1, ih k (i + 1) _ (by omega) (by omega) (by omega) (by omega)]; simp [h1, piecesS]
theorem pieces_f (l : List S26) (y : Int) (hc : ∀ r ∈ l, cntS r = true) (k : Nat) (hk : l.length < k) (hl : l.length ≤ 1000000000) : region_pieces.f k l y = some (piecesS l y) := by
 have h := pieces_l0 l y hc l.length k 0 [] (by omega) hk (by omega) (by simp; omega)
 rw [List.nil_append, List.drop_zero] at h; exact h
theorem rects_l0 (f t : Int) (l l2 : List S60) : ∀ (m k i : Nat) (out : List S26), i + m = l.length → m < k → i + m ≤ 1000000000 → out.length + m ≤ 1000000000 → region_band_rects.l0 k out l (l.length : Int) (i : Int) f t l2 = some (out ++ rectsS f t (l.drop i)) := by
 intro m
 induction m with
 | zero =>
  intro k i out h hk _ _
  obtain ⟨k, rfl⟩ : ∃ q, k = q + 1 := ⟨k - 1, by omega⟩
  rw [region_band_rects.l0, if_neg (by omega), List.drop_of_length_le (by omega)]; simp [rectsS]
 | succ m ih =>
  intro k i out h hk hi ho
  obtain ⟨k, rfl⟩ : ∃ q, k = q + 1 := ⟨k - 1, by omega⟩
  have hlt : i < l.length := by omega
  rw [region_band_rects.l0, if_pos (by omega), if_pos (by omega), if_pos (by omega), if_pos (by omega), rd60_at l i hlt, wrap_next i (by omega), List.drop_eq_getElem_cons hlt, ih k (i + 1) _ (by omega) (by omega) (by omega) (by simp; omega), List.append_assoc]
  rfl
theorem rects_f (f t : Int) (l : List S60) (k : Nat) (hk : l.length < k) (hl : l.length ≤ 1000000000) : region_band_rects.f k f t l = some (rectsS f t l) := by
 have h := rects_l0 f t l l l.length k 0 [] (by omega) hk (by omega) (by simp; omega)
 rw [List.nil_append, List.drop_zero] at h; exact h
instance : DecidableEq S60 := fun x y => if h : x.f0 = y.f0 ∧ x.f1 = y.f1 then .isTrue (by obtain ⟨x0, x1⟩ := x; obtain ⟨y0, y1⟩ := y; obtain ⟨h0, h1⟩ := h; simp only at h0 h1; subst h0 h1; rfl) else .isFalse (fun e => h (by rw [e]; exact ⟨rfl, rfl⟩))
theorem equal_l0 (l l2 : List S60) (he : l.length = l2.length) : ∀ (m k i : Nat), i + m = l.length → m < k → i + m ≤ 1000000000 → region_span_44.l0 k l l2 (l.length : Int) (i : Int) = some (decide (l.drop i = l2.drop i)) := by
 intro m
 induction m with
 | zero =>
  intro k i h hk _
  obtain ⟨k, rfl⟩ : ∃ q, k = q + 1 := ⟨k - 1, by omega⟩
  rw [region_span_44.l0, if_neg (by omega), List.drop_of_length_le (by omega), List.drop_of_length_le (by omega)]; rfl
 | succ m ih =>
  intro k i h hk hi
  obtain ⟨k, rfl⟩ : ∃ q, k = q + 1 := ⟨k - 1, by omega⟩
  have hlt : i < l.length := by omega
  have hlt2 : i < l2.length := by omega
  rw [region_span_44.l0, if_pos (by omega), if_pos (by omega), if_pos (by omega), if_pos (by omega), rd60_at l i hlt, rd60_at l2 i hlt2, wrap_next i (by omega), List.drop_eq_getElem_cons hlt, List.drop_eq_getElem_cons hlt2, ih k (i + 1) (by omega) (by omega) (by omega)]
  generalize l[i] = x
  generalize l2[i] = y
  obtain ⟨x0, x1⟩ := x
  obtain ⟨y0, y1⟩ := y
  by_cases h0 : x0 = y0
  ·by_cases h1 : x1 = y1
   ·subst h0 h1; simp
   ·subst h0; simp [h1]
  ·simp [h0]
theorem equal_f (l l2 : List S60) (k : Nat) (hk : l.length < k) (hl : l.length ≤ 1000000000) : region_span_44.f k l l2 = some (decide (l = l2)) := by
 unfold region_span_44.f
 by_cases h : l.length = l2.length
 ·rw [if_pos (by omega)]
  have h := equal_l0 l l2 h l.length k 0 (by omega) hk (by omega)
  rw [List.drop_zero, List.drop_zero] at h; exact h
 ·rw [if_neg (by omega)]
  have : l ≠ l2 := fun e => h (by rw [e])
  simp [this]
theorem counted (l : List S26) : ∀ r ∈ l.filter cntS, cntS r = true := fun r h => (List.mem_filter.1 h).2
theorem filter_len (l : List S26) : (l.filter cntS).length ≤ l.length := List.length_filter_le _ _
theorem pieces_len (l : List S26) (y : Int) : (piecesS l y).length ≤ l.length := by unfold piecesS; rw [List.length_map]; exact List.length_filter_le _ _
theorem rects_len (f t : Int) (l : List S60) : (rectsS f t l).length = l.length := by unfold rectsS; rw [List.length_map]
/-- The row that a value owns is a row that can be read. -/
theorem C_of_own {α : Type} {d : Kd α} {w : World} {e : TypeId} {base : Nat} {A : Option Addr} {n c : Nat} {xs : List α} (cv : α → List Value) (sz : Nat) (hsz : ∀ x, (cv x).length = sz) (h0 : 0 < sz) (hd : d.sz = sz) (hK : ∀ (w : World) x, d.K w x (cv x)) (ho : w.ownsRow base e sz (.slice A n c) n (xs.flatMap cv)) (hn : xs.length = n) : d.C w A n xs ∧ n ≤ c := by
 rcases ho.2 with ⟨he, h1⟩ | ⟨g, cap, cur, he, hbg, hg, hnc, hcm, _, _⟩
 ·injection he with e1 e2 e3
  subst e1 h1
  exact ⟨⟨hn, by omega, fun h => by omega⟩, by omega⟩
 ·injection he with e1 e2 e3
  subst e1 e3
  refine ⟨⟨hn, by unfold maxLen at hcm; omega, fun hp => ⟨_, rfl, fun j p hj => ⟨cv p, by rw [hsz, hd], hK w p, fun i u hi => ?_⟩⟩⟩, hnc⟩
  have hi2 : i < sz := by rw [← hsz p]; exact (List.getElem?_eq_some_iff.1 hi).1
  have h2 := ho.cells (g := g) rfl (j * sz + i) u (by
   rw [flat_get cv sz hsz h0, show (j * sz + i) / sz = j by rw [Nat.mul_comm, Nat.mul_add_div h0, Nat.div_eq_of_lt hi2, Nat.add_zero], show (j * sz + i) % sz = i by rw [Nat.mul_comm, Nat.mul_add_mod, Nat.mod_eq_of_lt hi2], hj]
   exact hi)
  rw [hd]; exact h2
theorem C_of_span {w : World} {base : Nat} {A : Option Addr} {c : Nat} {xs : List S60} (ho : w.ownsRow base 60 2 (.slice A xs.length c) xs.length (xs.flatMap cv_span)) : Kd.C k60 w A xs.length xs ∧ xs.length ≤ c :=
 C_of_own cv_span 2 (fun _ => rfl) (by decide) rfl (fun w x => ⟨_, _, rfl, rfl, rfl⟩) ho rfl
theorem C_of_rect {w : World} {base : Nat} {A : Option Addr} {c : Nat} {xs : List S26} (ho : w.ownsRow base 26 4 (.slice A xs.length c) xs.length (xs.flatMap cv_rect)) : Kd.C k26 w A xs.length xs ∧ xs.length ≤ c :=
 C_of_own cv_rect 4 (fun _ => rfl) (by decide) rfl (fun w x => ⟨_, _, rfl, rfl, ⟨_, _, rfl, rfl, ⟨_, _, rfl, rfl, rfl⟩⟩⟩) ho rfl
end
section
section
open Go.Shelf Go.Proofs.Ytkobiblgbpnlaaa.RX Go.Proofs.Ytkobiblgbpnlaaa
theorem run_append_rect {w : World} (ty : TypeId) (base : Nat) (v : Value) (n : Nat) (xs : List Value) (hown : w.ownsRow base 26 4 v n xs) (A : Option Addr) (c : Nat) (l : List S26) (hC : Kd.C k26 w A l.length l) (hn : n + l.length ≤ 1000000000) (hbase : base ≤ w.heap.size) :
  ∃ v' w', (Builtin.append_ #[22, 22] ty #[v, .slice A l.length c]).run Try.prog w = .ok v' w' ∧ w'.ownsRow base 26 4 v' (n + l.length) (xs ++ l.flatMap cv_rect) ∧ w.grownBy w' v.ownBlock := by
 obtain ⟨i0, hi, hzz⟩ := Option.map_eq_some_iff.1 info26
 simp only [Prod.mk.injEq] at hzz
 obtain ⟨hz0, hz1, hz2⟩ := hzz
 by_cases h0 : l.length = 0
 ·have hl : l = [] := List.length_eq_zero_iff.1 h0
  subst hl
  exact ⟨v, w, run_append_empty base 22 ty 26 i0 4 Try.underlying22 hi v n xs hown A c, by simpa using hown, ⟨rfl, rfl, rfl, Nat.le_refl _, fun _ _ _ => rfl⟩⟩
 ·obtain ⟨ad, rfl, hc⟩ := cells_rect hC (by omega)
  obtain ⟨g, cap, w', hr, h1, h2, _⟩ := run_append_lies (P := Try.prog) w 22 ty base 26 i0 _ 4 32 Try.underlying22 hi hz0 hz1 hz2 rfl (by decide) v n xs hown ad l.length c (l.flatMap cv_rect) (by rw [flat_len cv_rect 4 (fun _ => rfl)]) hc (fun u hu => by
   obtain ⟨y, _, hy⟩ := List.mem_flatMap.1 hu
   simp only [cv_rect, List.mem_cons, List.not_mem_nil, or_false] at hy
   rcases hy with rfl | rfl | rfl | rfl <;> rfl) (by omega) (by unfold maxLen; omega) (by omega) hbase _ rfl
  exact ⟨_, w', hr, h1, h2⟩
theorem stepIn_append_rect {F : Fence} {m : Nat} {ops : Array Oper} {o : Oper} {a : Act} {K : Act → World → Prop} {Q : Exit → Act → World → Prop} {w : World} {E : Prop} (hF : ∀ f, F.fn f) (hgd : o.guard = none) (s x : Operand) (ho : o.op = .call { callee := .builtin .append, args := #[s, x], argTypes := #[22, 22] })
  (base : Nat) (v : Value) (n : Nat) (xs : List Value) (hs : a.eval s = v) (hown : w.ownsRow base 26 4 v n xs) (A : Option Addr) (c : Nat) (l : List S26) (hx : a.eval x = .slice A l.length c) (hC : Kd.C k26 w A l.length l) (hn : n + l.length ≤ 1000000000) (hbase : base ≤ w.heap.size)
  (h : ∀ v' w', w'.ownsRow base 26 4 v' (n + l.length) (xs ++ l.flatMap cv_rect) → w.grownBy w' v.ownBlock → K (a.put o.dst v') w') :
  if Region.wanted o (yielded ops a.tmps) = true then Oper.wpIn F m Try.prog o a w K Q else E := by
 have hw : Region.wanted o (yielded ops a.tmps) = true := by simp [Region.wanted, hgd]
 rw [if_pos hw]
 obtain ⟨v', w', hr, h1, h2⟩ := run_append_rect o.type base v n xs hown A c l hC hn hbase
 unfold Oper.wpIn
 refine ⟨fun _ _ => hF _, ?_⟩
 rw [Oper.semAt_eq _ _ _ (fun c e => by rw [ho] at e; cases e)]
 unfold execOp
 simp only [ho, resolve, invoke, builtin, Sem.run_bind, Sem.run_pure, Result.andThen_ok, List.map_toArray, List.map_cons, List.map_nil, hs, hx, hr]
 exact h v' w' h1 h2
theorem only_n {K : Act → World → Prop} {a : Act} {w : World} (h : K a w) : onlyN K .normal a w := h
theorem R_C {α : Type} {d : Kd α} {e : Nat} {w : World} {base : Nat} {ok : Nat → Prop} {A : Option Addr} {c : Nat} {xs : List α} (h : d.R e w base ok (.slice A xs.length c) xs) : xs.length ≤ c ∧ d.C w A xs.length xs := by
 obtain ⟨A', c', he, hl, hC⟩ := Kd.R_reads h
 injection he with h1 h2 h3
 subst h1 h3
 exact ⟨hl, hC⟩
theorem R_set {α : Type} {d : Kd α} {e : Nat} {w : World} {base : Nat} {ok : Nat → Prop} {v : Value} {xs : List α} (h : d.R e w base ok v xs) {p : Addr} (hp : p.block < base) (u : Value) : d.R e (w.setCell p u) base (fun _ => True) v xs :=
 Kd.R_mono (Kd.R_far (Kd.R_mono (Kd.R_bound h) (ok' := fun k => base ≤ k) (fun k hk => hk.2.1)) (fun k hk => by omega) u) (fun _ _ => trivial)
theorem own_below {W W' : World} {n e sz k : Nat} {v : Value} {xs : List Value} (h : W.ownsRow n e sz v k xs) (hb : Below W.heap.size W W') : W'.ownsRow n e sz v k xs := h.kept (grownBy_below_ hb) (by cases h : v.ownBlock <;> simp [h])
/-- All is as it was but the blocks of E (and what is new). -/
structure KPE (E : Nat → Prop) (W W' : World) : Prop where
 os : W'.os = W.os
 tape : W'.tape = W.tape
 output : W'.output = W.output
 size : W.heap.size ≤ W'.heap.size
 block : ∀ k, k < W.heap.size → ¬ E k → W'.heap[k]? = W.heap[k]?
theorem KPE.refl (E : Nat → Prop) (W : World) : KPE E W W := ⟨rfl, rfl, rfl, Nat.le_refl _, fun _ _ _ => rfl⟩
theorem KPE.trans {E : Nat → Prop} {A B C : World} (h : KPE E A B) (k : KPE E B C) : KPE E A C := ⟨k.os.trans h.os, k.tape.trans h.tape, k.output.trans h.output, Nat.le_trans h.size k.size, fun q hq hn => (k.block q (Nat.lt_of_lt_of_le hq h.size) hn).trans (h.block q hq hn)⟩
theorem KPE.of_below {E : Nat → Prop} {A B : World} (h : Below A.heap.size A B) : KPE E A B := ⟨h.os, h.tape, h.output, h.size, fun q hq _ => h.block q hq⟩
theorem ne_rows {W : World} {n n' e e' sz sz' k k' : Nat} {v v' : Value} {xs xs' : List Value} (h : W.ownsRow n e sz v k xs) (h' : W.ownsRow n' e' sz' v' k' xs') (hne : e ≠ e') : v.ownBlock = none ∨ v.ownBlock ≠ v'.ownBlock := by
 rcases h.2 with ⟨rfl, _⟩ | ⟨g, cap, cur, rfl, _, hg, _⟩
 ·exact .inl rfl
 ·refine .inr fun e => ?_
  rcases h'.2 with ⟨rfl, _⟩ | ⟨g', cap', cur', rfl, _, hg', _⟩
  ·cases e
  ·obtain rfl : g = g' := by simpa [Value.ownBlock] using e
   rw [hg] at hg'
   injection hg' with h1
   injection h1 with _ h2
   exact hne h2
abbrev CBS := List S26 × Int × Int × List S60
/-- What holds ahead of each round: the rows told so far, and the last band. -/
def CInv (ob lb n0 : Nat) (W7 : World) (st : CBS) (W : World) : Prop :=
 ∃ v vs, Boxed W ob 22 v ∧ W.ownsRow n0 26 4 v st.1.length (st.1.flatMap cv_rect) ∧ W.heap[lb]? = some (.cells #[.int .i64 st.2.1, .int .i64 st.2.2.1, vs] 53 (0, 0)) ∧ W.ownsRow n0 60 2 vs st.2.2.2.length (st.2.2.2.flatMap cv_span) ∧ KPE (fun k => k = ob ∨ k = lb) W7 W
theorem CInv.grown {ob lb n0 : Nat} {W7 : World} {st : CBS} {W W' : World} {row : Option Nat} (h : CInv ob lb n0 W7 st W) (hg : W.grownBy W' row) (hr : ∀ r, row = some r → W7.heap.size ≤ r ∧ ∃ o : Obj, W.heap[r]? = some o ∧ o.isCells = false) : CInv ob lb n0 W7 st W' := by
 obtain ⟨v, vs, h1, h2, h3, h4, h5⟩ := h
 have own : ∀ {e sz : Nat} {u : Value} {k : Nat} {xs : List Value}, W.ownsRow n0 e sz u k xs → W'.ownsRow n0 e sz u k xs := fun {e sz u k xs} ho => by
  refine ho.kept hg ?_
  rcases ho.2 with ⟨rfl, _⟩ | ⟨g, cap, cur, rfl, _, hgb, _⟩
  ·exact .inl rfl
  ·refine .inr fun e' => ?_
   obtain ⟨_, o, ho', hc⟩ := hr g (by simpa [Value.ownBlock] using e'.symm)
   rw [hgb] at ho'; cases ho'; cases hc
 have hlb : lb < W.heap.size := (Array.getElem?_eq_some_iff.1 h3).1
 refine ⟨v, vs, h1.kept hg (fun e' => ?_), own h2, (hg.block lb hlb (fun e' => ?_)).trans h3, own h4, ⟨hg.os.trans h5.os, hg.tape.trans h5.tape, hg.output.trans h5.output, Nat.le_trans h5.size hg.size, fun k hk hn => (hg.block k (Nat.lt_of_lt_of_le hk h5.size) (fun e' => ?_)).trans (h5.block k hk hn)⟩⟩
 ·obtain ⟨_, o, ho, hc⟩ := hr ob e'.symm
  rw [show W.heap[ob]? = _ from h1] at ho; cases ho; cases hc
 ·obtain ⟨_, o, ho, hc⟩ := hr lb e'.symm
  rw [h3] at ho; cases ho; cases hc
 ·have := (hr k e'.symm).1; omega
theorem CInv.below {ob lb n0 : Nat} {W7 : World} {st : CBS} {W W' : World} (h : CInv ob lb n0 W7 st W) (hb : Below W.heap.size W W') : CInv ob lb n0 W7 st W' := h.grown (grownBy_below_ hb) (fun r e => by cases e)
theorem cinv_own {β : Type} {ob lb n0 B : Nat} {W7 : World} (hB : W7.heap.size ≤ B) (f : List β → CBS) : OwnFrom B (fun (pre : List β) W => CInv ob lb n0 W7 (f pre) W) := fun s W W' row h hg hr => h.grown hg (fun r e => ⟨Nat.le_trans hB (hr r e).1, (hr r e).2⟩)
theorem cio_below {ob lb n1 n2 e1 e2 sz1 sz2 m1 m2 t1 t2 : Nat} {W7 W W' : World} {E : Nat → Prop} {v vs : Value} {xs ys : List Value} {cs : Array Value} (hb : Below W.heap.size W W') (h1 : Boxed W ob t1 v) (h2 : W.ownsRow n1 e1 sz1 v m1 xs) (h3 : W.heap[lb]? = some (.cells cs t2 (0, 0))) (h4 : W.ownsRow n2 e2 sz2 vs m2 ys) (h5 : KPE E W7 W) :
  Boxed W' ob t1 v ∧ W'.ownsRow n1 e1 sz1 v m1 xs ∧ W'.heap[lb]? = some (.cells cs t2 (0, 0)) ∧ W'.ownsRow n2 e2 sz2 vs m2 ys ∧ KPE E W7 W' :=
 ⟨h1.kept (grownBy_below_ hb) (by simp), own_below h2 hb, (hb.block _ (Array.getElem?_eq_some_iff.1 h3).1).trans h3, own_below h4 hb, h5.trans (KPE.of_below hb)⟩
/-- The last band is longer now. -/
theorem CInv.longer {ob lb n0 : Nat} {W7 : World} {st : CBS} {W : World} (h : CInv ob lb n0 W7 st W) (hne : ob ≠ lb) (hn : lb < n0) (t : Int) : CInv ob lb n0 W7 (st.1, st.2.1, t, st.2.2.2) (W.setCell ⟨lb, 1, none⟩ (.int .i64 t)) := by
 obtain ⟨v, vs, h1, h2, h3, h4, h5⟩ := h
 refine ⟨v, vs, (Below.heap_setCell W ⟨lb, 1, none⟩ _ ob hne).trans h1, ownsRow_setCell_below h2 hn _, ?_, ownsRow_setCell_below h4 hn _, ⟨h5.os, h5.tape, h5.output, by simpa [World.setCell] using h5.size, fun k hk hnk => (Below.heap_setCell W ⟨lb, 1, none⟩ _ k (fun e => hnk (.inr e))).trans (h5.block k hk hnk)⟩⟩
 rw [heap_setCell_same W lb 1 _ _ _ h3]; rfl
/-- A band more: the old one's rectangles are appended, the new one is laid in its place. -/
theorem CInv.next {ob lb n0 : Nat} {W7 : World} {st : CBS} {W W' : World} {v : Value} {xs : List S26} {vs : Value} {f t : Int} {s : List S60} {v' x y z : Value}
  (h1 : Boxed W ob 22 v) (h2 : W.ownsRow n0 26 4 v st.1.length (st.1.flatMap cv_rect)) (h3 : W.heap[lb]? = some (.cells #[x, y, z] 53 (0, 0))) (h5 : KPE (fun k => k = ob ∨ k = lb) W7 W)
  (hs : W.ownsRow n0 60 2 vs s.length (s.flatMap cv_span)) (hown : W'.ownsRow n0 26 4 v' (st.1.length + xs.length) (st.1.flatMap cv_rect ++ xs.flatMap cv_rect)) (hg : W.grownBy W' v.ownBlock) (hne : ob ≠ lb) (hn : lb < n0) (ho : ob < n0) (h70 : W7.heap.size ≤ n0) :
  CInv ob lb n0 W7 (st.1 ++ xs, f, t, s) ((((W'.setCell ⟨ob, 0, none⟩ v').setCell ⟨lb, 0, none⟩ (.int .i64 f)).setCell ⟨lb, 1, none⟩ (.int .i64 t)).setCell ⟨lb, 2, none⟩ vs) ∧ KeepsOthers W ((((W'.setCell ⟨ob, 0, none⟩ v').setCell ⟨lb, 0, none⟩ (.int .i64 f)).setCell ⟨lb, 1, none⟩ (.int .i64 t)).setCell ⟨lb, 2, none⟩ vs) ∧ W.heap.size ≤ ((((W'.setCell ⟨ob, 0, none⟩ v').setCell ⟨lb, 0, none⟩ (.int .i64 f)).setCell ⟨lb, 1, none⟩ (.int .i64 t)).setCell ⟨lb, 2, none⟩ vs).heap.size := by
 have hb1 : Boxed W' ob 22 v := h1.kept hg (h1.not_row (by decide) h2)
 have hl1 : W'.heap[lb]? = some (.cells #[x, y, z] 53 (0, 0)) := (hg.block lb (Array.getElem?_eq_some_iff.1 h3).1 (fun e => by have := own_base h2 lb e.symm; omega)).trans h3
 have hs1 : W'.ownsRow n0 60 2 vs s.length (s.flatMap cv_span) := hs.kept hg (ne_rows hs h2 (by decide))
 have hz : W'.heap.size = ((((W'.setCell ⟨ob, 0, none⟩ v').setCell ⟨lb, 0, none⟩ (.int .i64 f)).setCell ⟨lb, 1, none⟩ (.int .i64 t)).setCell ⟨lb, 2, none⟩ vs).heap.size := by simp [World.setCell]
 refine ⟨⟨v', vs, ?_, ?_, ?_, ?_, ⟨hg.os.trans h5.os, hg.tape.trans h5.tape, hg.output.trans h5.output, by rw [← hz]; exact Nat.le_trans h5.size hg.size, fun k hk hnk => ?_⟩⟩, ?_, by rw [← hz]; exact hg.size⟩
 ·have h6 := hb1.set v'
  exact (Below.heap_setCell _ ⟨lb, 2, none⟩ _ ob hne).trans ((Below.heap_setCell _ ⟨lb, 1, none⟩ _ ob hne).trans ((Below.heap_setCell _ ⟨lb, 0, none⟩ _ ob hne).trans h6))
 ·rw [List.length_append, List.flatMap_append]
  exact ownsRow_setCell_below (ownsRow_setCell_below (ownsRow_setCell_below (ownsRow_setCell_below hown ho _) hn _) hn _) hn _
 ·have h6 : (W'.setCell ⟨ob, 0, none⟩ v').heap[lb]? = _ := (Below.heap_setCell W' ⟨ob, 0, none⟩ v' lb (fun e => hne e.symm)).trans hl1
  rw [heap_setCell_same _ lb 2 _ _ _ (heap_setCell_same _ lb 1 _ _ _ (heap_setCell_same _ lb 0 _ _ _ h6))]; rfl
 ·exact ownsRow_setCell_below (ownsRow_setCell_below (ownsRow_setCell_below (ownsRow_setCell_below hs1 ho _) hn _) hn _) hn _
 ·refine (Below.heap_setCell _ ⟨lb, 2, none⟩ _ k (fun e => hnk (.inr e))).trans ((Below.heap_setCell _ ⟨lb, 1, none⟩ _ k (fun e => hnk (.inr e))).trans ((Below.heap_setCell _ ⟨lb, 0, none⟩ _ k (fun e => hnk (.inr e))).trans ((Below.heap_setCell _ ⟨ob, 0, none⟩ _ k (fun e => hnk (.inl e))).trans ((hg.block k (Nat.lt_of_lt_of_le hk h5.size) (fun e => by have := own_base h2 k e.symm; omega)).trans (h5.block k hk hnk)))))
 ·refine (KeepsOthers.of_grownBy hg fun j o ej hj => ?_).trans ((KeepsOthers.setCell _ _ _).trans ((KeepsOthers.setCell _ _ _).trans ((KeepsOthers.setCell _ _ _).trans (KeepsOthers.setCell _ _ _))))
  rcases h2.2 with ⟨rfl, _⟩ | ⟨g, cap, cur, rfl, _, hgb, _⟩
  ·simp [Value.ownBlock] at ej
  ·obtain rfl : g = j := by simpa [Value.ownBlock] using ej
   rw [hgb] at hj; cases hj; rfl
end
end
section
/-- All ends of rectangles, downwards. -/
def yendsS (l : List S26) : List Int := l.flatMap fun r => [r.f1, r.f1 + r.f3]
/-- One step down: the last band is longer, or a new one begins. -/
def stepB (kp : Bool → Bool → Bool) (a b : List S26) (st : CBS) (f t : Int) : CBS := if 0 < (rowS kp (piecesS a f) (piecesS b f)).length ∧ st.2.2.1 = f ∧ rowS kp (piecesS a f) (piecesS b f) = st.2.2.2 then (st.1, st.2.1, t, st.2.2.2) else (st.1 ++ rectsS st.2.1 st.2.2.1 st.2.2.2, f, t, rowS kp (piecesS a f) (piecesS b f))
def combL (kp : Bool → Bool → Bool) (a b : List S26) (L : List Int) (n : Nat) : CBS := (List.range n).foldl (fun o k => stepB kp a b o (L.getD k 0) (L.getD (k + 1) 0)) ([], 0, 0, [])
def combE (st : CBS) : List S26 := st.1 ++ rectsS st.2.1 st.2.2.1 st.2.2.2
def combS (kp : Bool → Bool → Bool) (a b : List S26) : List S26 := combE (combL kp (a.filter cntS) (b.filter cntS) (srtL (yendsS (a.filter cntS ++ b.filter cntS))) ((srtL (yendsS (a.filter cntS ++ b.filter cntS))).length - 1))
theorem yendsS_len (l : List S26) (k : Nat) (h : k ≤ l.length) : (yendsS (l.take k)).length = 2 * k := by
 have h1 : ∀ l : List S26, (yendsS l).length = 2 * l.length := fun l => by
  induction l with
  | nil => rfl
  | cons x l ih => simp only [yendsS, List.flatMap_cons, List.length_append, List.length_cons, List.length_nil] at ih ⊢; omega
 rw [h1, List.length_take]; omega
theorem yendsS_next (l : List S26) (k : Nat) (s : S26) (h : l[k]? = some s) : yendsS (l.take (k + 1)) = yendsS (l.take k) ++ [s.f1, s.f1 + s.f3] := by
 rw [List.take_add_one, h]; simp [yendsS]
def outB (kp : Bool → Bool → Bool) (a b : List S26) (L : List Int) (pre : List {k : Nat // k + 1 < L.length}) : CBS := pre.foldl (fun o k => stepB kp a b o (L.getD k.1 0) (L.getD (k.1 + 1) 0)) ([], 0, 0, [])
theorem outB_all (kp : Bool → Bool → Bool) (a b : List S26) (L : List Int) (xs : List {k : Nat // k + 1 < L.length}) (h : xs.map (·.1) = List.range (L.length - 1)) : outB kp a b L xs = combL kp a b L (L.length - 1) := by
 unfold outB combL; rw [← h, List.foldl_map]
theorem rowS_len (kp : Bool → Bool → Bool) (a b : List S60) : (rowS kp a b).length ≤ 2 * (a.length + b.length) := by
 have h : ∀ (ns : List Nat) (L : List Int) (o : List S60), (ns.foldl (fun o k => stepR kp a b o (L.getD k 0) (L.getD (k + 1) 0)) o).length ≤ o.length + ns.length := fun ns L => by
  induction ns with
  | nil => exact fun o => Nat.le_refl _
  | cons x ns ih =>
   intro o
   rw [List.foldl_cons, List.length_cons]
   refine Nat.le_trans (ih _) ?_
   have h1 : (stepR kp a b o (L.getD x 0) (L.getD (x + 1) 0)).length ≤ o.length + 1 := by
    unfold stepR
    split
    ·split <;> simp <;> omega
    ·omega
   omega
 have h2 := h (List.range ((srtL (endsL (a ++ b))).length - 1)) (srtL (endsL (a ++ b))) []
 have h3 := srtL_le (endsL (a ++ b))
 have h4 := endsL_len (a ++ b) (a ++ b).length (Nat.le_refl _)
 rw [List.take_length, List.length_append] at h4
 rw [List.length_nil, List.length_range] at h2
 unfold rowS rowL
 omega
theorem outB_len (kp : Bool → Bool → Bool) (a b : List S26) (hab : a.length + b.length ≤ 5000) (L : List Int) (pre : List {k : Nat // k + 1 < L.length}) : (outB kp a b L pre).1.length ≤ pre.length * 10000 ∧ (outB kp a b L pre).2.2.2.length ≤ 10000 := by
 have h : ∀ (pre : List {k : Nat // k + 1 < L.length}) (st : CBS) (m : Nat), st.1.length ≤ m → st.2.2.2.length ≤ 10000 → (pre.foldl (fun o k => stepB kp a b o (L.getD k.1 0) (L.getD (k.1 + 1) 0)) st).1.length ≤ m + pre.length * 10000 ∧ (pre.foldl (fun o k => stepB kp a b o (L.getD k.1 0) (L.getD (k.1 + 1) 0)) st).2.2.2.length ≤ 10000 := fun pre => by
  induction pre with
  | nil => exact fun st m h1 h2 => ⟨by simpa using h1, h2⟩
  | cons x pre ih =>
   intro st m h1 h2
   rw [List.foldl_cons, List.length_cons]
   have h3 := rowS_len kp (piecesS a (L.getD x.1 0)) (piecesS b (L.getD x.1 0))
   have h4 := pieces_len a (L.getD x.1 0)
   have h5 := pieces_len b (L.getD x.1 0)
   have h6 := ih (stepB kp a b st (L.getD x.1 0) (L.getD (x.1 + 1) 0)) (m + 10000) (by
    unfold stepB
    split
    ·simp only; omega
    ·simp only [List.length_append, rects_len]; omega) (by
    unfold stepB
    split
    ·exact h2
    ·simp only; omega)
   exact ⟨by have := h6.1; omega, h6.2⟩
 have h2 := h pre ([], 0, 0, []) 0 (Nat.le_refl _) (Nat.zero_le _)
 rw [Nat.zero_add] at h2
 exact h2
open Go.Shelf Go.Sort Go.Proofs.Ytkobiblgbpnlaaa.RX Go.Proofs.Ytkobiblgbpnlaaa
attribute [local go_sem] Oper.semAt_some
set_option maxHeartbeats 16000000 in
set_option maxRecDepth 100000 in
theorem combine_c (fk : FuncId) (kp : Bool → Bool → Bool) (he : ∀ args w, (callFunc fk args).run Try.prog w = .ok (.enter fk args) w) (hf : ∀ (W : World) (x y : Bool), Calls Try.prog fk #[.bool x, .bool y] W fun e w' => e = .returned (.bool (kp x y)) ∧ w' = W) (A B : Option Addr) (c d : Nat) (a b : List S26) (w : World) (h1 : Kd.C k26 w A a.length a) (h2 : Kd.C k26 w B b.length b) (hc : a.length ≤ c) (hd : b.length ≤ d) (hl : a.length + b.length ≤ 5000) :
  Calls Try.prog 25 #[.slice A a.length c, .slice B b.length d, .func (.func fk) #[] #[]] w fun e w' => ∃ v, e = .returned v ∧ w'.ownsRow w.heap.size 26 4 v (combS kp a b).length ((combS kp a b).flatMap cv_rect) ∧ Below w.heap.size w w' := by
 obtain ⟨i0, hi, hzz⟩ := Option.map_eq_some_iff.1 info3
 simp only [Prod.mk.injEq] at hzz
 obtain ⟨hz0, hz1, hz2⟩ := hzz
 have HE := Lib.hid he
 have HF := Lib.hid hf
 have HI := Lib.hid hi
 have HI0 := Lib.hid hz0
 have HI1 := Lib.hid hz1
 have HI2 := Lib.hid hz2
 have H1 := Lib.hid h1
 have H2 := Lib.hid h2
 have HL := Lib.hid hl
 have HCD := Lib.hid (And.intro hc hd)
 clear he hf hi hz0 hz1 hz2 h1 h2 hc hd hl
 refine (callsIn_wide (n := 4)).1 ?_
 refine callsIn_of_wp_marks Try.func25 rfl trivial ?_ rfl
 simp only [Try.ntmps25, List.size_toArray, List.length_cons, List.length_nil, Nat.reduceAdd, Nat.reduceSub, Array.replicate_succ, Array.replicate_zero, List.push_toArray, List.append_toArray, List.nil_append, List.cons_append]
 obtain ⟨Wb, hWb⟩ : ∃ X, ((w.alloc (.cells #[.slice A a.length c] 22)).alloc (.cells #[.slice B b.length d] 22)).alloc (.cells #[.func (.func fk) #[] #[]] 39) = X := ⟨_, rfl⟩
 have hbz : Below w.heap.size w Wb := by rw [← hWb]; exact below_alloc (below_alloc (below_alloc (Below.refl _ _) _) _) _
 have hA : Wb.heap[w.heap.size]? = some (.cells #[.slice A a.length c] 22 (0, 0)) := by rw [← hWb]; exact (Below.heap_alloc _ _ _ (by simp <;> omega)).trans ((Below.heap_alloc _ _ _ (by simp)).trans (heap_alloc_new w _))
 have hB : Wb.heap[w.heap.size + 1]? = some (.cells #[.slice B b.length d] 22 (0, 0)) := by have h0 := heap_alloc_new (w.alloc (.cells #[.slice A a.length c] 22)) (.cells #[.slice B b.length d] 22); rw [World.size_alloc] at h0; rw [← hWb]; exact (Below.heap_alloc _ _ _ (by simp)).trans h0
 have hK : Wb.heap[w.heap.size + 1 + 1]? = some (.cells #[.func (.func fk) #[] #[]] 39 (0, 0)) := by have h0 := heap_alloc_new ((w.alloc (.cells #[.slice A a.length c] 22)).alloc (.cells #[.slice B b.length d] 22)) (.cells #[.func (.func fk) #[] #[]] 39); rw [World.size_alloc, World.size_alloc, hWb] at h0; exact h0
 have hsz : Wb.heap.size = w.heap.size + 3 := by rw [← hWb]; simp
 have HA := Lib.hid hA
 have HB := Lib.hid hB
 have HK := Lib.hid hK
 have HBZ := Lib.hid hbz
 have HSZ := Lib.hid hsz
 have C1 := Lib.hid (Kd.C_below H1.out hbz)
 have C2 := Lib.hid (Kd.C_below H2.out hbz)
 clear hA hB hK hbz hsz
 gi_wp2
 clear hWb
 refine wpIn_only ?_
 refine HR.region [4, 5] (fun w' => Below Wb.heap.size Wb w') (by kernel_rfl) ?_
 have hdr : Below Wb.heap.size Wb Wb.drew := Below.drew (Below.refl _ _)
 have cA : ∀ w', Below Wb.heap.size Wb w' → w'.cell? ⟨w.heap.size, 0, none⟩ = some (.slice A a.length c) := fun w' h => pw_cell_below h ((cell_of_row _ _ 0 _ _ _ HA.out).trans rfl)
 have cB : ∀ w', Below Wb.heap.size Wb w' → w'.cell? ⟨w.heap.size + 1, 0, none⟩ = some (.slice B b.length d) := fun w' h => pw_cell_below h ((cell_of_row _ _ 0 _ _ _ HB.out).trans rfl)
 refine HR.take 0 (v := .slice A a.length c) (by kernel_rfl) (by kernel_rfl) (fun _ => trivial) (by kernel_rfl) rfl (by kernel_rfl) (by kernel_rfl) (by kernel_rfl) (fun _ _ _ h => h) (hdr) rfl (fun w0 hw0 => by have := cA w0 hw0; clear cA cB; go_simp) ?_
 simp only [Act.put, List.setIfInBounds_toArray, List.set_cons_zero, List.set_cons_succ]
 refine HR.take 2 (v := .slice B b.length d) (by kernel_rfl) (by kernel_rfl) (fun _ => trivial) (by kernel_rfl) rfl (by kernel_rfl) (by kernel_rfl) (by kernel_rfl) (fun _ _ _ h => h) (hdr) rfl (fun w0 hw0 => by have := cB w0 hw0; clear cA cB; go_simp) ?_
 simp only [Act.put, List.setIfInBounds_toArray, List.set_cons_zero, List.set_cons_succ]
 clear cA cB
 have HDR := Lib.hid hdr; clear hdr
 refine HR.one 1 (by kernel_rfl) rfl (fun K hK => ?_)
 go_simp
 refine ⟨trivial, (callsIn_wide.2 (region_counting.calls (a.length + 1) A c a (a.filter cntS) _ (Kd.C_below C1.out HDR.out) HCD.out.1 (counting_f a _ (Nat.lt_succ_self _) (by have := HL.out; omega)))).mono ?_⟩
 rintro e W1 ⟨v1, rfl, hr1, hb1⟩
 obtain ⟨A1, c1, rfl, hn1, hC1⟩ := Kd.R_reads hr1
 have HB1 := Lib.hid (HDR.out.trans (hb1.mono HDR.out.size)); have HC1 := Lib.hid hC1; have HN1 := Lib.hid hn1; have HR1 := Lib.hid (Kd.R_lower hr1 HDR.out.size); clear hr1 hb1 hC1 hn1
 refine hK _ _ ⟨.inr HB1.out, ?_⟩; clear hK K
 refine HR.one 3 (by kernel_rfl) rfl (fun K hK => ?_)
 go_simp
 refine ⟨trivial, (callsIn_wide.2 (region_counting.calls (b.length + 1) B d b (b.filter cntS) _ (Kd.C_below C2.out HB1.out) HCD.out.2 (counting_f b _ (Nat.lt_succ_self _) (by have := HL.out; omega)))).mono ?_⟩
 rintro e W2 ⟨v2, rfl, hr2, hb2⟩
 obtain ⟨A2, c2, rfl, hn2, hC2⟩ := Kd.R_reads hr2
 have HB2 := Lib.hid (HB1.out.trans (hb2.mono HB1.out.size)); have HC2 := Lib.hid hC2; have HN2 := Lib.hid hn2; have HR1b := Lib.hid (Kd.R_below HR1.out hb2); have HR2 := Lib.hid (Kd.R_lower hr2 HB1.out.size); clear hr2 hb2 hC2 hn2 HC1 HR1
 refine hK _ _ ⟨.inr HB2.out, ?_⟩; clear hK K
 obtain ⟨ca, hca⟩ : ∃ ca, a.filter cntS = ca := ⟨_, rfl⟩
 obtain ⟨cb, hcb⟩ : ∃ cb, b.filter cntS = cb := ⟨_, rfl⟩
 rw [hca] at HN1 HR1b; rw [hcb] at HN2 HC2 HR2
 simp only [hca, hcb]
 have HCA := Lib.hid hca; have HCB := Lib.hid hcb; clear hca hcb
 have xa := (HB2.out.block _ (by have := HSZ.out; omega)).trans HA.out
 have ya := (cell_of_row _ _ 0 _ _ _ xa).trans (c := some (.slice A a.length c)) rfl; have fa := frozen_of_row _ _ 0 _ _ xa
 have xb := (HB2.out.block _ (by have := HSZ.out; omega)).trans HB.out
 have yb := (cell_of_row _ _ 0 _ _ _ xb).trans (c := some (.slice B b.length d)) rfl; have fb := frozen_of_row _ _ 0 _ _ xb
 have XA := Lib.hid xa; have XB := Lib.hid xb; clear xa xb
 refine HR.one 4 (by kernel_rfl) rfl (fun K hK => ?_)
 go_simp
 refine hK _ _ ⟨.inl (by decide), ?_⟩; clear hK K
 refine HR.one 5 (by kernel_rfl) rfl (fun K hK => ?_)
 have yb2 : (W2.setCell ⟨w.heap.size, 0, none⟩ (.slice A1 ca.length c1)).cell? ⟨w.heap.size + 1, 0, none⟩ = some (.slice B b.length d) := (World.cell?_setCell_other _ _ _ _ (by simp)).trans yb
 have fb2 : (W2.setCell ⟨w.heap.size, 0, none⟩ (.slice A1 ca.length c1)).frozen? ⟨w.heap.size + 1, 0, none⟩ = false := by simpa using fb
 go_simp
 refine hK _ _ ⟨.inl (by decide), ?_⟩; clear hK K
 refine HR.done (by kernel_rfl) (only_n ?_) _
 clear yb2 fb2 ya yb fa fb
 have SCA : Hid (ca.length ≤ a.length) := Lib.hid (by rw [← HCA.out]; exact filter_len a)
 have SCB : Hid (cb.length ≤ b.length) := Lib.hid (by rw [← HCB.out]; exact filter_len b)
 obtain ⟨Wc, hWc⟩ : ∃ X, (W2.setCell ⟨w.heap.size, 0, none⟩ (.slice A1 ca.length c1)).setCell ⟨w.heap.size + 1, 0, none⟩ (.slice A2 cb.length c2) = X := ⟨_, rfl⟩
 have hsz2 := HSZ.out; have hszb := HB2.out.size
 have xa : Wc.heap[w.heap.size]? = some (.cells #[.slice A1 ca.length c1] 22 (0, 0)) := by rw [← hWc]; exact (Below.heap_setCell _ ⟨w.heap.size + 1, 0, none⟩ _ _ (by simp)).trans ((heap_setCell_same _ _ 0 _ _ _ XA.out).trans rfl)
 have xb : Wc.heap[w.heap.size + 1]? = some (.cells #[.slice A2 cb.length c2] 22 (0, 0)) := by rw [← hWc]; exact (heap_setCell_same _ _ 0 _ _ _ ((Below.heap_setCell _ ⟨w.heap.size, 0, none⟩ _ _ (by simp)).trans XB.out)).trans rfl
 have xk : Wc.heap[w.heap.size + 1 + 1]? = some (.cells #[.func (.func fk) #[] #[]] 39 (0, 0)) := by rw [← hWc]; exact (Below.heap_setCell _ ⟨w.heap.size + 1, 0, none⟩ _ _ (by simp)).trans ((Below.heap_setCell _ ⟨w.heap.size, 0, none⟩ _ _ (by simp <;> omega)).trans ((HB2.out.block _ (by omega)).trans HK.out))
 have r1 : Kd.R k26 26 Wc Wb.heap.size (fun _ => True) (.slice A1 ca.length c1) ca := by rw [← hWc]; exact R_set (R_set HR1b.out (show w.heap.size < _ by omega) _) (show w.heap.size + 1 < _ by omega) _
 have r2 : Kd.R k26 26 Wc Wb.heap.size (fun _ => True) (.slice A2 cb.length c2) cb := by rw [← hWc]; exact R_set (R_set HR2.out (show w.heap.size < _ by omega) _) (show w.heap.size + 1 < _ by omega) _
 have hbc : Below w.heap.size w Wc := by have h1 := HBZ.out.trans (HB2.out.mono HBZ.out.size); rw [← hWc]; exact ⟨h1.os, h1.tape, h1.output, by simpa [World.setCell] using h1.size, fun q hq => (Below.heap_setCell _ ⟨w.heap.size + 1, 0, none⟩ _ q (by simp; omega)).trans ((Below.heap_setCell _ ⟨w.heap.size, 0, none⟩ _ q (by simp; omega)).trans (h1.block q hq))⟩
 have hszc : w.heap.size + 3 ≤ Wc.heap.size := by rw [← hWc]; simp [World.setCell]; omega
 rw [hWc]
 clear hWc HR1b HR2 HC2 XA XB HB1 HDR HA HB HK C1 C2 hsz2 hszb HN1 HN2
 obtain ⟨Wd, hWd⟩ : ∃ X, Wc.alloc (.cells #[.slice A1 ca.length c1, .slice A2 cb.length c2] 22) = X := ⟨_, rfl⟩
 have hS : Wd.heap[Wc.heap.size]? = some (.cells #[.slice A1 ca.length c1, .slice A2 cb.length c2] 22 (0, 0)) := by rw [← hWd]; exact heap_alloc_new _ _
 have hbd : Below Wc.heap.size Wc Wd := by rw [← hWd]; exact below_alloc (Below.refl _ _) _
 have c1d := R_C (Kd.R_below r1 hbd); have c2d := R_C (Kd.R_below r2 hbd)
 have ya := (cell_of_row _ _ 0 _ _ _ xa).trans (c := some (.slice A1 ca.length c1)) rfl; have yb := (cell_of_row _ _ 0 _ _ _ xb).trans (c := some (.slice A2 cb.length c2)) rfl
 have XA := Lib.hid xa
 have XB := Lib.hid xb
 have XK := Lib.hid xk
 have HR1 := Lib.hid r1
 have HR2 := Lib.hid r2
 have HBC := Lib.hid hbc
 have SZC := Lib.hid hszc
 have HS := Lib.hid hS
 have HBD := Lib.hid hbd
 have C1D := Lib.hid c1d
 have C2D := Lib.hid c2d
 clear xa xb xk r1 r2 hbc hszc hS hbd c1d c2d
 gi_wp2
 refine ⟨trivial, (callsIn_wide.2 (concat_rect A1 A2 c1 c2 ca cb Wc.heap.size Wd HS.out C1D.out.2 C2D.out.2 C1D.out.1 C2D.out.1 (by have := HL.out; have := SCA.out; have := SCB.out; omega))).mono ?_⟩
 rintro e W3 ⟨v3, rfl, ho3, hb3⟩
 have hlen : (ca ++ cb).length = ca.length + cb.length := List.length_append
 obtain ⟨N, hN⟩ : ∃ N : Nat, ca.length + cb.length = N := ⟨_, rfl⟩
 rw [hN] at ho3
 have HN := Lib.hid hN
 have hN9 : N ≤ 5000 := by have := HL.out; have := SCA.out; have := SCB.out; omega
 clear hN hlen hWd ya yb
 obtain ⟨A3, c3, rfl⟩ := own_slice ho3
 have HO3 := Lib.hid ho3
 have HB3 := Lib.hid (show Below w.heap.size w W3 from HBC.out.trans ((HBD.out.trans (hb3.mono HBD.out.size)).mono HBC.out.size))
 have HB3c := Lib.hid (HBD.out.trans (hb3.mono HBD.out.size))
 clear ho3 hb3
 have HCNT : Hid (∀ r ∈ ca ++ cb, cntS r = true) := Lib.hid (fun r hr => by rcases List.mem_append.1 hr with h | h; (rw [← HCA.out] at h; exact counted _ _ h); (rw [← HCB.out] at h; exact counted _ _ h))
 gi_wp2
 have hlen : (ca ++ cb).length = ca.length + cb.length := List.length_append
 gi_loopw [7, 24] (fun p7 p19 wr => ∃ (k : Nat), k ≤ N ∧ p19 = .int .i64 k ∧ Hid (wr.ownsRow W3.heap.size 3 1 p7 (yendsS ((ca ++ cb).take k)).length ((yendsS ((ca ++ cb).take k)).map (Value.int .i64))) ∧ Hid (Below W3.heap.size W3 wr)) (fun _ p19 _ => N - (intOf p19).toNat)
 case atStart => exact ⟨0, Nat.zero_le _, rfl, Lib.hid (World.ownsRow_nil _ _ _ _), Lib.hid (Below.refl _ _)⟩
 case round =>
  obtain ⟨k, hk, rfl, HX, HBr⟩ := hrel
  by_cases hlt : k < N
  ·have d0 : decide ((k : Int) < (N : Int)) = true := decide_eq_true (by omega)
   obtain ⟨g, hg⟩ : ∃ g, A3 = some ⟨g, 0, none⟩ := by rcases HO3.out.2 with ⟨_, h0⟩ | ⟨g, cap, cur, he, _⟩; (omega); injection he with h1; exact ⟨g, h1⟩
   subst hg
   have hkl : k < (ca ++ cb).length := by rw [List.length_append]; have := HN.out; omega
   obtain ⟨x, hx⟩ : ∃ x, (ca ++ cb)[k] = x := ⟨_, rfl⟩
   have hcl : ∀ j, j < 4 → wr.cell? ⟨g, k * 4 + j, none⟩ = (cv_rect x)[j]? := fun j hj => by
    have h3 : ((ca ++ cb).flatMap cv_rect)[k * 4 + j]? = (cv_rect x)[j]? := by rw [flat_get cv_rect 4 (fun _ => rfl) (by decide), show (k * 4 + j) / 4 = k by omega, show (k * 4 + j) % 4 = j by omega, List.getElem?_eq_getElem hkl, hx]; rfl
    have h4 : j < (cv_rect x).length := hj
    rw [List.getElem?_eq_getElem h4] at h3 ⊢
    have h5 := HO3.out.cells (g := g) rfl _ _ h3
    rw [Addr.add_lit, Nat.zero_add] at h5
    exact pw_cell_below HBr.out h5
   have hcx := (cntS_iff x).1 (HCNT.out x (by rw [← hx]; exact List.getElem_mem hkl))
   obtain ⟨u0, u1, u2, u3⟩ := x
   have x0 : wr.cell? ⟨g, k * 4, none⟩ = some (.int .i64 u0) := hcl 0 (by decide)
   have x1 : wr.cell? ⟨g, k * 4 + 1, none⟩ = some (.int .i64 u1) := hcl 1 (by decide)
   have x2 : wr.cell? ⟨g, k * 4 + 2, none⟩ = some (.int .i64 u2) := hcl 2 (by decide)
   have x3 : wr.cell? ⟨g, k * 4 + 3, none⟩ = some (.int .i64 u3) := hcl 3 (by decide)
   have b1 : -1048576 ≤ u1 ∧ u1 ≤ 1048576 ∧ 1 ≤ u3 ∧ u3 ≤ 2097152 := ⟨hcx.2.1, hcx.2.2.1, hcx.2.2.2.1, hcx.2.2.2.2.1⟩
   obtain ⟨b10, b11, b30, b31⟩ := b1
   have wq : IntKind.i64.wrap (u1 + u3) = u1 + u3 := by rw [IntKind.wrap_i64]; omega
   have HXX : Hid ((ca ++ cb)[k]? = some ⟨u0, u1, u2, u3⟩) := Lib.hid ((List.getElem?_eq_getElem hkl).trans (congrArg some hx))
   have HKL := Lib.hid hkl
   have p0 : (0 : Int) ≤ (k : Int) := by omega
   have p1 : (k : Int) < (N : Int) := by omega
   clear hcl hx hkl hcx
   obtain ⟨A7, c7, rfl⟩ := own_slice HX.out
   obtain ⟨m, hm⟩ : ∃ m, (yendsS ((ca ++ cb).take k)).length = m := ⟨_, rfl⟩
   rw [hm] at HX ⊢
   have HM := Lib.hid hm
   clear hm
   have hm9 : m = 2 * k := by rw [← HM.out]; exact yendsS_len _ _ (by have := HN.out; have := @List.length_append _ ca cb; omega)
   have HM9 := Lib.hid hm9
   clear hm9
   have h0 := heap_alloc_new (wr.alloc (.cells #[.int .i64 u0, .int .i64 u1, .int .i64 u2, .int .i64 u3] 26)) (.cells #[.int .i64 u1, .int .i64 (u1 + u3)] 3); rw [World.size_alloc] at h0
   have HNW := Lib.hid (World.news_of_block h0)
   clear h0
   have HB3x : Hid (m + 2 ≤ maxLen) := Lib.hid (by have := HM9.out; unfold maxLen; omega)
   have HB4 : Hid ((m + 2) * 8 ≤ 140737488355328) := Lib.hid (by have := HM9.out; omega)
   have HB5 : Hid (W3.heap.size ≤ ((wr.alloc (.cells #[.int .i64 u0, .int .i64 u1, .int .i64 u2, .int .i64 u3] 26)).alloc (.cells #[.int .i64 u1, .int .i64 (u1 + u3)] 3)).heap.size) := Lib.hid (by have := HBr.out.size; simp; omega)
   gi_wp2_with (gi_at_builtin; refine wpListIn_append_own _ rfl _ _ 40 rfl W3.heap.size 3 i0 (.int .i64 0) 1 8 Try.underlying40 HI.out HI0.out HI1.out HI2.out rfl (by decide) _ _ _ rfl ((HX.out.alloc _).alloc _) ⟨wr.heap.size + 1, 0, none⟩ 2 2 [.int .i64 u1, .int .i64 (u1 + u3)] rfl rfl HNW.out (by simp [Value.oneCell']) HB3x.out HB4.out HB5.out ?_; intro v' w2 hown' hgrow _; obtain ⟨g', cap', rfl⟩ := ownsRow_succ hown'; have HOW := Lib.hid hown'; have HGR := Lib.hid hgrow; clear hown' hgrow)
   refine ⟨⟨k + 1, by omega, by push_cast; rfl, ?_, ?_⟩, by simp [intOf]; omega⟩
   ·rw [yendsS_next _ _ _ HXX.out, List.map_append, List.length_append, HM.out]; exact Lib.hid HOW.out
   ·exact Lib.hid (below_grown (below_alloc (below_alloc HBr.out _) _) HB5.out ((HX.out.alloc _).alloc _) HGR.out)
  ·have d0 : decide ((k : Int) < (N : Int)) = false := decide_eq_false (by omega)
   have hkn : k = N := by omega
   subst hkn
   rw [List.take_of_length_le (by have := HN.out; rw [List.length_append]; omega)] at HX
   obtain ⟨A7, c7, rfl⟩ := own_slice HX.out
   have hel : (yendsS (ca ++ cb)).length ≤ 10000 := by have h1 := yendsS_len (ca ++ cb) (ca ++ cb).length (Nat.le_refl _); rw [List.take_length, List.length_append] at h1; have := HN.out; omega
   obtain ⟨L, hL⟩ : ∃ L, srtL (yendsS (ca ++ cb)) = L := ⟨_, rfl⟩
   have HEL := Lib.hid hel
   clear hel
   gi_wp2
   refine ⟨trivial, (callsIn_wide.2 (sorted_c _ _ (yendsS (ca ++ cb)) W3.heap.size _ ((HX.out.alloc _).alloc _) (by have := HEL.out; omega))).mono ?_⟩
   rintro e W6 ⟨v8, rfl, ho8, hw8, hg8⟩
   rw [hL] at ho8
   obtain ⟨A8, c8, rfl⟩ := own_slice ho8
   have HO8 := Lib.hid ho8
   have HG8 := Lib.hid hg8
   have HLL := Lib.hid hL
   have HW8 := Lib.hid hw8
   clear ho8 hg8 hL hw8
   gi_wp2
   refine ⟨trivial, (callsIn_wide.2 (steps_maker A8 _ c8 W6)).mono ?_⟩
   rintro e W7 ⟨rfl, hW7⟩
   have HW7 := Lib.hid hW7
   clear hW7
   gi_wp2
   have hs7 : W7.heap.size = W6.heap.size + 1 := by rw [HW7.out]; simp
   have hs6 : wr.heap.size + 2 ≤ W6.heap.size := by have := HG8.out.size; rw [World.size_alloc, World.size_alloc] at this; exact this
   have hnA : ∀ q, (Value.slice A7 (yendsS (ca ++ cb)).length c7).ownBlock = some q → W3.heap.size ≤ q ∧ q < wr.heap.size := fun q hq => by
    rcases HX.out.2 with ⟨he, _⟩ | ⟨g, cap, cur, he, hbg, hgw, _⟩
    ·rw [he] at hq; cases hq
    ·rw [he] at hq
     obtain rfl : q = g := by simpa [Value.ownBlock] using hq.symm
     exact ⟨hbg, (Array.getElem?_eq_some_iff.1 hgw).1⟩
   have hB7 : W7.heap[W6.heap.size]? = some (.cells #[.slice A8 L.length c8] 40 (0, 0)) := by rw [HW7.out]; exact heap_alloc_new _ _
   have h67 : Below W6.heap.size W6 W7 := by rw [HW7.out]; exact below_alloc (Below.refl _ _) _
   have hBO : W7.heap[wr.heap.size]? = some (.cells #[.slice none 0 0] 22 (0, 0)) := by
    have h0 := heap_alloc_new wr (.cells #[.slice none 0 0] 22)
    exact (h67.block _ (by omega)).trans ((HG8.out.block _ (by simp <;> omega) (fun e => by have := hnA _ e.symm; omega)).trans ((Below.heap_alloc _ _ _ (by simp)).trans h0))
   have hBL : W7.heap[wr.heap.size + 1]? = some (.cells #[.int .i64 0, .int .i64 0, .slice none 0 0] 53 (0, 0)) := by
    have h0 := heap_alloc_new (wr.alloc (.cells #[.slice none 0 0] 22)) (.cells #[.int .i64 0, .int .i64 0, .slice none 0 0] 53); rw [World.size_alloc] at h0
    exact (h67.block _ (by omega)).trans ((HG8.out.block _ (by simp) (fun e => by have := hnA _ e.symm; omega)).trans h0)
   have hxs : ∀ W', KeepE W7.heap.size (fun k => k = wr.heap.size ∨ k = wr.heap.size + 1) W7 W' → ∀ i, i < L.length → ∃ ad, A8 = some ad ∧ W'.cell? (ad.add i) = some (.int .i64 (L.getD i 0)) := fun W' hk i hi => by
    rcases HO8.out.2 with ⟨_, h0⟩ | ⟨g, cap, cur, he, hbg, hgw, _⟩
    ·omega
    ·have h1 : A8 = some ⟨g, 0, none⟩ := by injection he
     subst h1
     have hne := hnA g (HW8.out.symm.trans rfl)
     have h3 : (L.map (Value.int .i64))[i]? = some (.int .i64 (L.getD i 0)) := by rw [List.getElem?_map, List.getElem?_eq_getElem hi]; simp [List.getD, hi]
     have h4 := HO8.out.cells (g := g) rfl i _ h3
     refine ⟨_, rfl, ?_⟩
     have h5 : W'.heap[g]? = W6.heap[g]? := (hk.2 g (by omega) (by omega)).trans (h67.block g (by omega))
     exact (World.cell?_of_block (a := (⟨g, 0, none⟩ : Addr).add i) (by first | exact h5 | (rw [Addr.add_lit]; exact h5))).trans h4
   have hcov : Below w.heap.size w W3 := HB3.out
   have h17 : Below W3.heap.size W3 W7 := ⟨h67.os.trans (HG8.out.os.trans HBr.out.os), h67.tape.trans (HG8.out.tape.trans HBr.out.tape), h67.output.trans (HG8.out.output.trans HBr.out.output), by have := HBr.out.size; omega, fun q hq => (h67.block q (by have := HBr.out.size; omega)).trans ((HG8.out.block q (by have := HBr.out.size; rw [World.size_alloc, World.size_alloc]; omega) (fun e => by have := hnA _ e.symm; omega)).trans ((Below.heap_alloc _ _ _ (by have := HBr.out.size; rw [World.size_alloc]; omega)).trans ((Below.heap_alloc _ _ _ (by have := HBr.out.size; omega)).trans (HBr.out.block q hq))))⟩
   refine rf_all (α := {k : Nat // k + 1 < L.length}) (by decide) rfl (enters_of Try.func52 (by kernel_rfl) rfl)
    (steps_stopsE 3 (by decide) W6.heap.size W7.heap.size (fun k => k = wr.heap.size ∨ k = wr.heap.size + 1) A8 c8 L (by have := HEL.out; have := srtL_le (yendsS (ca ++ cb)); rw [HLL.out] at this; omega) ⟨by omega, by omega⟩ W7 (Nat.le_refl _) hB7 hxs)
    keepE_t (keepE_b (Nat.le_refl _)) (fun _ => rfl)
    (fun pre Wx => CInv wr.heap.size (wr.heap.size + 1) W7.heap.size W7 (outB kp ca cb L pre) Wx)
    (cinv_own (Nat.le_refl _) _)
    ⟨.slice none 0 0, .slice none 0 0, hBO, World.ownsRow_nil _ _ _ _, hBL, World.ownsRow_nil _ _ _ _, KPE.refl _ _⟩ ?_
   apply Exists.intro
   refine ⟨?assign, ?body, ?done⟩
   case assign =>
    intro l x W K hK
    gi_wp2
    exact hK
   case body =>
    rintro l pre k Wx hI hpl
    obtain ⟨v, vs, hv, ho, hl3, hs2, hk⟩ := hI
    have hq1 := hk.size; have hq2 := h17.size; have hq3 := HBr.out.size; have hq4 := HB3c.out.size
    have hbx : Below Wc.heap.size Wc Wx := ⟨hk.os.trans (h17.os.trans HB3c.out.os), hk.tape.trans (h17.tape.trans HB3c.out.tape), hk.output.trans (h17.output.trans HB3c.out.output), by omega, fun q hq => (hk.block q (by omega) (by omega)).trans ((h17.block q (by omega)).trans (HB3c.out.block q hq))⟩
    have hszc := SZC.out
    have xa := (cell_of_row _ _ 0 _ _ _ ((hbx.block _ (by omega)).trans XA.out)).trans (c := some (.slice A1 ca.length c1)) rfl
    have xb := (cell_of_row _ _ 0 _ _ _ ((hbx.block _ (by omega)).trans XB.out)).trans (c := some (.slice A2 cb.length c2)) rfl
    have xk := (cell_of_row _ _ 0 _ _ _ ((hbx.block _ (by omega)).trans XK.out)).trans (c := some (.func (.func fk) #[] #[])) rfl
    have k1 := R_C HR1.out; have k2 := R_C HR2.out
    have K1 := Lib.hid (Kd.C_below k1.2 hbx)
    have K2 := Lib.hid (Kd.C_below k2.2 hbx)
    have N1 := Lib.hid k1.1
    have N2 := Lib.hid k2.1
    have pl : pre.length ≤ 10000 := by have := HEL.out; have := srtL_le (yendsS (ca ++ cb)); rw [HLL.out] at this; omega
    have HLEN := Lib.hid (outB_len kp ca cb (by have := HN.out; omega) L pre)
    have PL := Lib.hid pl
    obtain ⟨fx, hfx⟩ : ∃ fx, L.getD k.1 0 = fx := ⟨_, rfl⟩
    obtain ⟨tx, htx⟩ : ∃ tx, L.getD (k.1 + 1) 0 = tx := ⟨_, rfl⟩
    obtain ⟨st, hst⟩ : ∃ st, outB kp ca cb L pre = st := ⟨_, rfl⟩
    have hstep : outB kp ca cb L (pre ++ [k]) = stepB kp ca cb st fx tx := by rw [← hst, ← hfx, ← htx]; unfold outB; rw [List.foldl_append]; rfl
    rw [hst] at ho hl3 hs2 HLEN
    obtain ⟨out, lf, lt, ls⟩ := st
    obtain ⟨Ao, co, rfl⟩ := own_slice ho
    obtain ⟨Al, cl, rfl⟩ := own_slice hs2
    have HST := Lib.hid hstep
    have HV := Lib.hid hv
    have HO := Lib.hid ho
    have HL3 := Lib.hid hl3
    have HS2 := Lib.hid hs2
    have HKP := Lib.hid hk
    have FX := Lib.hid hfx
    have TX := Lib.hid htx
    have HC0 := Lib.hid (⟨hs6, hs7⟩ : wr.heap.size + 2 ≤ W6.heap.size ∧ W7.heap.size = W6.heap.size + 1)
    try simp only [List.getD_eq_getElem?_getD] at hfx htx
    try simp only [hfx, htx]
    clear hstep hst hv ho hl3 hs2 hk hfx htx pl k1 k2 hbx hszc hq1 hq2 hq3 hq4 hs6 hs7 hxs hnA hB7 hBO hBL h67 h17 hcov hpl hlen
    gi_wp2_with fail
    refine wpIn_only ?_
    refine HR.region [8] (fun w' => Below Wx.heap.size Wx w') (by kernel_rfl) ?_
    have HDR : Hid (Below Wx.heap.size Wx Wx.drew) := Lib.hid (Below.drew (Below.refl _ _))
    have XA := Lib.hid xa
    have XB := Lib.hid xb
    have XK := Lib.hid xk
    clear xa xb xk
    refine HR.take 0 (v := .slice A1 ca.length c1) (by kernel_rfl) (by kernel_rfl) (fun _ => trivial) (by kernel_rfl) rfl (by kernel_rfl) (by kernel_rfl) (by kernel_rfl) (fun _ _ _ h => h) (HDR.out) rfl (fun w0 hw0 => by have := pw_cell_below hw0 XA.out; go_simp) ?_
    simp only [Act.put, List.setIfInBounds_toArray, List.set_cons_zero, List.set_cons_succ]
    refine HR.take 1 (v := .int .i64 fx) (by kernel_rfl) (by kernel_rfl) (fun _ => trivial) (by kernel_rfl) rfl (by kernel_rfl) (by kernel_rfl) (by kernel_rfl) (fun _ _ _ h => h) (HDR.out) rfl (fun w0 hw0 => by go_simp) ?_
    simp only [Act.put, List.setIfInBounds_toArray, List.set_cons_zero, List.set_cons_succ]
    refine HR.take 3 (v := .slice A2 cb.length c2) (by kernel_rfl) (by kernel_rfl) (fun _ => trivial) (by kernel_rfl) rfl (by kernel_rfl) (by kernel_rfl) (by kernel_rfl) (fun _ _ _ h => h) (HDR.out) rfl (fun w0 hw0 => by have := pw_cell_below hw0 XB.out; go_simp) ?_
    simp only [Act.put, List.setIfInBounds_toArray, List.set_cons_zero, List.set_cons_succ]
    refine HR.take 4 (v := .int .i64 fx) (by kernel_rfl) (by kernel_rfl) (fun _ => trivial) (by kernel_rfl) rfl (by kernel_rfl) (by kernel_rfl) (by kernel_rfl) (fun _ _ _ h => h) (HDR.out) rfl (fun w0 hw0 => by go_simp) ?_
    simp only [Act.put, List.setIfInBounds_toArray, List.set_cons_zero, List.set_cons_succ]
    refine HR.take 6 (v := .func (.func fk) #[] #[]) (by kernel_rfl) (by kernel_rfl) (fun _ => trivial) (by kernel_rfl) rfl (by kernel_rfl) (by kernel_rfl) (by kernel_rfl) (fun _ _ _ h => h) (HDR.out) rfl (fun w0 hw0 => by have := pw_cell_below hw0 XK.out; go_simp) ?_
    simp only [Act.put, List.setIfInBounds_toArray, List.set_cons_zero, List.set_cons_succ]
    refine HR.one 2 (by kernel_rfl) rfl (fun K hK => ?_)
    go_simp
    refine ⟨trivial, (callsIn_wide.2 (region_pieces.calls (ca.length + 1) A1 c1 ca fx (piecesS ca fx) _ (Kd.C_below K1.out HDR.out) N1.out (pieces_f ca fx (fun r hr => HCNT.out r (List.mem_append_left _ hr)) _ (Nat.lt_succ_self _) (by have := HN.out; omega)))).mono ?_⟩
    rintro e w1 ⟨v1, rfl, hr1, hb1⟩
    obtain ⟨A4, c4, rfl, hn4, hC4⟩ := Kd.R_reads hr1
    have HB4 := Lib.hid (HDR.out.trans (hb1.mono HDR.out.size))
    have HC4 := Lib.hid hC4
    have N4 := Lib.hid hn4
    clear hr1 hb1 hC4 hn4
    refine hK _ _ ⟨.inr HB4.out, ?_⟩; clear hK K
    refine HR.one 5 (by kernel_rfl) rfl (fun K hK => ?_)
    go_simp
    refine ⟨trivial, (callsIn_wide.2 (region_pieces.calls (cb.length + 1) A2 c2 cb fx (piecesS cb fx) _ (Kd.C_below K2.out HB4.out) N2.out (pieces_f cb fx (fun r hr => HCNT.out r (List.mem_append_right _ hr)) _ (Nat.lt_succ_self _) (by have := HN.out; omega)))).mono ?_⟩
    rintro e w2 ⟨v2, rfl, hr2, hb2⟩
    obtain ⟨A5, c5, rfl, hn5, hC5⟩ := Kd.R_reads hr2
    have HB5 := Lib.hid (HB4.out.trans (hb2.mono HB4.out.size))
    have HC5 := Lib.hid hC5
    have N5 := Lib.hid hn5
    have HC4b := Lib.hid (Kd.C_below HC4.out hb2)
    clear hr2 hb2 hC5 hn5 HC4
    refine hK _ _ ⟨.inr HB5.out, ?_⟩; clear hK K
    refine HR.one 7 (by kernel_rfl) rfl (fun K hK => ?_)
    go_simp
    refine ⟨trivial, (callsIn_wide.2 (row_c fk kp HE.out HF.out A4 A5 c4 c5 (piecesS ca fx) (piecesS cb fx) _ HC4b.out HC5.out N4.out N5.out (by have h1 := pieces_len ca fx; have h2 := pieces_len cb fx; have h3 := HN.out; omega))).mono ?_⟩
    rintro e w3 ⟨v3, rfl, ho3, hb3⟩
    obtain ⟨A6, c6, rfl⟩ := own_slice ho3
    have hrl : (rowS kp (piecesS ca fx) (piecesS cb fx)).length ≤ 10000 := by have h0 := rowS_len kp (piecesS ca fx) (piecesS cb fx); have h1 := pieces_len ca fx; have h2 := pieces_len cb fx; have h3 := HN.out; omega
    obtain ⟨rs, hrs⟩ : ∃ rs, rowS kp (piecesS ca fx) (piecesS cb fx) = rs := ⟨_, rfl⟩
    rw [hrs] at ho3 hrl; simp only [hrs]
    have HB6 := Lib.hid (HB5.out.trans (hb3.mono HB5.out.size))
    have HO6 := Lib.hid (World.ownsRow.mono ho3 (Nat.le_trans HKP.out.size HB5.out.size))
    have HRL := Lib.hid hrl
    have HRS := Lib.hid hrs
    clear ho3 hb3 hrl hrs
    refine hK _ _ ⟨.inr HB6.out, ?_⟩; clear hK K
    refine HR.one 8 (by kernel_rfl) rfl (fun K hK => ?_)
    go_simp
    refine hK _ _ ⟨.inr HB6.out, ?_⟩; clear hK K
    refine HR.done (by kernel_rfl) (only_n ?_) _
    obtain ⟨hv, ho, hl3, hs2, hk⟩ := cio_below HB6.out HV.out HO.out HL3.out HS2.out HKP.out
    have hko : KeepsOthers Wx w3 := KeepsOthers.of_grownBy (grownBy_below_ HB6.out) (fun j o h _ => by cases h)
    have HV3 := Lib.hid hv
    have HO3b := Lib.hid ho
    have HL33 := Lib.hid hl3
    have HS23 := Lib.hid hs2
    have HK3 := Lib.hid hk
    have HKO := Lib.hid hko
    clear hv ho hl3 hs2 hk hko
    by_cases h0 : 0 < rs.length
    rotate_left
    ·have d1 : decide ((0 : Int) < (rs.length : Int)) = false := decide_eq_false (by omega)
     have H0 := Lib.hid h0; clear h0
     gi_upto_region 16 with (refine ⟨trivial, ?_⟩)
     obtain ⟨hCl, hnl⟩ := C_of_span HS23.out
     have HCL := Lib.hid hCl
     have z0 := (cell_of_row w3 (wr.heap.size + 1) 0 _ _ _ HL33.out).trans (c := some (.int .i64 lf)) rfl
     have z1 := (cell_of_row w3 (wr.heap.size + 1) 1 _ _ _ HL33.out).trans (c := some (.int .i64 lt)) rfl
     have z2 := (cell_of_row w3 (wr.heap.size + 1) 2 _ _ _ HL33.out).trans (c := some (.slice Al ls.length cl)) rfl
     have z3 := HV3.out.cell
     have HZ : Hid (w3.cell? ⟨wr.heap.size, 0, none⟩ = some (.slice Ao out.length co) ∧ w3.cell? ⟨wr.heap.size + 1, 0, none⟩ = some (.int .i64 lf) ∧ w3.cell? ⟨wr.heap.size + 1, 1, none⟩ = some (.int .i64 lt) ∧ w3.cell? ⟨wr.heap.size + 1, 2, none⟩ = some (.slice Al ls.length cl)) := Lib.hid ⟨z3, z0, z1, z2⟩
     clear z0 z1 z2 z3 hCl
     refine wpIn_only ?_
     refine HR.region [3, 4] (fun w' => Below w3.heap.size w3 w') (by kernel_rfl) ?_
     have HDW : Hid (Below w3.heap.size w3 w3.drew) := Lib.hid (Below.drew (Below.refl _ _))
     refine HR.take 0 (v := .slice Ao out.length co) (by kernel_rfl) (by kernel_rfl) (fun _ => trivial) (by kernel_rfl) rfl (by kernel_rfl) (by kernel_rfl) (by kernel_rfl) (fun _ _ _ h => h) (HDW.out) rfl (fun w0 hw0 => by have := pw_cell_below hw0 HZ.out.1; go_simp) ?_
     simp only [Act.put, List.setIfInBounds_toArray, List.set_cons_zero, List.set_cons_succ]
     refine HR.take 1 (v := .agg #[.int .i64 lf, .int .i64 lt, .slice Al ls.length cl]) (by kernel_rfl) (by kernel_rfl) (fun _ => trivial) (by kernel_rfl) rfl (by kernel_rfl) (by kernel_rfl) (by kernel_rfl) (fun _ _ _ h => h) (HDW.out) rfl (fun w0 hw0 => by have := pw_cell_below hw0 HZ.out.2.1; have := pw_cell_below hw0 HZ.out.2.2.1; have := pw_cell_below hw0 HZ.out.2.2.2; go_simp) ?_
     simp only [Act.put, List.setIfInBounds_toArray, List.set_cons_zero, List.set_cons_succ]
     refine HR.one 2 (by kernel_rfl) rfl (fun K hK => ?_)
     go_simp
     refine ⟨trivial, (callsIn_wide.2 (region_band_rects.calls (ls.length + 1) lf lt Al cl ls (rectsS lf lt ls) _ (Kd.C_below HCL.out HDW.out) hnl (rects_f lf lt ls _ (Nat.lt_succ_self _) (by have h1 : ls.length ≤ 10000 := HLEN.out.2; omega)))).mono ?_⟩
     rintro e w4 ⟨v4, rfl, hr4, hb4⟩
     obtain ⟨A9, c9, rfl, hn9, hC9⟩ := Kd.R_reads hr4
     have HB7 := Lib.hid (HDW.out.trans (hb4.mono HDW.out.size))
     have HC9 := Lib.hid hC9
     clear hr4 hb4 hC9 hn9
     refine hK _ _ ⟨.inr HB7.out, ?_⟩; clear hK K
     obtain ⟨hv, ho, hl3, hs2, hk⟩ := cio_below HB7.out HV3.out HO3b.out HL33.out HO6.out HK3.out
     have HV7 := Lib.hid hv
     have HO7 := Lib.hid ho
     have HL7 := Lib.hid hl3
     have HR7 := Lib.hid hs2
     have HK7 := Lib.hid hk
     have HKO7 := Lib.hid (KeepsOthers.of_grownBy (grownBy_below_ HB7.out) (fun j o h _ => by cases h) : KeepsOthers w3 w4)
     clear hv ho hl3 hs2 hk
     refine HR.one 3 (by kernel_rfl) rfl (fun K hK => ?_)
     refine stepIn_append_rect (fun _ => trivial) rfl (.tmp 69) (.tmp 71) rfl W7.heap.size _ _ _ rfl HO7.out A9 c9 (rectsS lf lt ls) rfl HC9.out (by have h1 : ls.length ≤ 10000 := HLEN.out.2; have h2 := PL.out; have h3 : out.length ≤ pre.length * 10000 := HLEN.out.1; rw [rects_len]; omega) (by have := HK7.out.size; exact this) ?_
     intro v' w5 hown' hg'
     obtain ⟨Aw, cw, rfl⟩ := own_slice hown'
     simp only [Act.put, List.setIfInBounds_toArray, List.set_cons_zero, List.set_cons_succ]
     have HOW := Lib.hid hown'
     have HGR := Lib.hid hg'
     clear hown' hg'
     refine hK _ _ ⟨.inl (by decide), ?_⟩; clear hK K
     refine HR.one 4 (by kernel_rfl) rfl (fun K hK => ?_)
     have hbx5 : Boxed w5 wr.heap.size 22 (.slice Ao out.length co) := HV7.out.kept HGR.out (HV7.out.not_row (by decide) HO7.out)
     have y0 := hbx5.cell; have y1 := hbx5.frozen
     have HX5 := Lib.hid hbx5; clear hbx5
     go_simp
     refine hK _ _ ⟨.inl (by decide), ?_⟩; clear hK K
     refine HR.done (by kernel_rfl) (only_n ?_) _
     clear y0 y1
     have hl5 : w5.heap[wr.heap.size + 1]? = some (.cells #[.int .i64 lf, .int .i64 lt, .slice Al ls.length cl] 53 (0, 0)) := (HGR.out.block _ (Array.getElem?_eq_some_iff.1 HL7.out).1 (fun e => by have h1 := own_base HO7.out _ e.symm; have h2 := HC0.out; omega)).trans HL7.out
     have hl6 := (Below.heap_setCell w5 ⟨wr.heap.size, 0, none⟩ (.slice Aw (out.length + (rectsS lf lt ls).length) cw) (wr.heap.size + 1) (by simp)).trans hl5
     have z0 := (cell_of_row _ (wr.heap.size + 1) 0 _ _ _ hl6).trans (c := some (.int .i64 lf)) rfl; have g0 := frozen_of_row _ (wr.heap.size + 1) 0 _ _ hl6
     have z1 := (cell_of_row _ (wr.heap.size + 1) 1 _ _ _ hl6).trans (c := some (.int .i64 lt)) rfl; have g1 := frozen_of_row _ (wr.heap.size + 1) 1 _ _ hl6
     have z2 := (cell_of_row _ (wr.heap.size + 1) 2 _ _ _ hl6).trans (c := some (.slice Al ls.length cl)) rfl; have g2 := frozen_of_row _ (wr.heap.size + 1) 2 _ _ hl6
     clear hl5 hl6
     gi_wp2
     have hfin := CInv.next (ob := wr.heap.size) (lb := wr.heap.size + 1) (st := (out, lf, lt, ls)) (xs := rectsS lf lt ls) (s := rs) (f := fx) (t := tx) HV7.out HO7.out HL7.out HK7.out HR7.out HOW.out HGR.out (by omega) (by have := HC0.out; omega) (by have := HC0.out; omega) (Nat.le_refl _)
     refine ⟨HKO.out.trans (HKO7.out.trans hfin.2.1), ?_, ?_⟩
     ·obtain ⟨_, _, _, _, _, _, hk9⟩ := hfin.1
      exact ⟨Nat.le_trans HB6.out.size (Nat.le_trans HB7.out.size hfin.2.2), fun q hq hn => (hk9.block q hq hn).trans (HKP.out.block q hq hn).symm⟩
     ·show CInv _ _ _ _ (outB kp ca cb L (pre ++ [k])) _
      rw [HST.out, show stepB kp ca cb (out, lf, lt, ls) fx tx = (out ++ rectsS lf lt ls, fx, tx, rs) from by unfold stepB; rw [HRS.out, if_neg (fun h => H0.out h.1)]]
      exact hfin.1
    have d1 : decide ((0 : Int) < (rs.length : Int)) = true := decide_eq_true (by omega)
    have H0 := Lib.hid h0; clear h0
    have z0 := (cell_of_row w3 (wr.heap.size + 1) 0 _ _ _ HL33.out).trans (c := some (.int .i64 lf)) rfl
    have z1 := (cell_of_row w3 (wr.heap.size + 1) 1 _ _ _ HL33.out).trans (c := some (.int .i64 lt)) rfl
    have z2 := (cell_of_row w3 (wr.heap.size + 1) 2 _ _ _ HL33.out).trans (c := some (.slice Al ls.length cl)) rfl
    by_cases h1 : lt = fx
    rotate_left
    ·have d2 : decide (lt = fx) = false := decide_eq_false h1
     have d3 : (lt == fx) = false := by simpa using h1
     gi_upto_region 16 with (refine ⟨trivial, ?_⟩)
     have H1 := Lib.hid h1
     clear h1 d2 d3 z0 z1 z2
     obtain ⟨hCl, hnl⟩ := C_of_span HS23.out
     have HCL := Lib.hid hCl
     have z0 := (cell_of_row w3 (wr.heap.size + 1) 0 _ _ _ HL33.out).trans (c := some (.int .i64 lf)) rfl
     have z1 := (cell_of_row w3 (wr.heap.size + 1) 1 _ _ _ HL33.out).trans (c := some (.int .i64 lt)) rfl
     have z2 := (cell_of_row w3 (wr.heap.size + 1) 2 _ _ _ HL33.out).trans (c := some (.slice Al ls.length cl)) rfl
     have z3 := HV3.out.cell
     have HZ : Hid (w3.cell? ⟨wr.heap.size, 0, none⟩ = some (.slice Ao out.length co) ∧ w3.cell? ⟨wr.heap.size + 1, 0, none⟩ = some (.int .i64 lf) ∧ w3.cell? ⟨wr.heap.size + 1, 1, none⟩ = some (.int .i64 lt) ∧ w3.cell? ⟨wr.heap.size + 1, 2, none⟩ = some (.slice Al ls.length cl)) := Lib.hid ⟨z3, z0, z1, z2⟩
     clear z0 z1 z2 z3 hCl
     refine wpIn_only ?_
     refine HR.region [3, 4] (fun w' => Below w3.heap.size w3 w') (by kernel_rfl) ?_
     have HDW : Hid (Below w3.heap.size w3 w3.drew) := Lib.hid (Below.drew (Below.refl _ _))
     refine HR.take 0 (v := .slice Ao out.length co) (by kernel_rfl) (by kernel_rfl) (fun _ => trivial) (by kernel_rfl) rfl (by kernel_rfl) (by kernel_rfl) (by kernel_rfl) (fun _ _ _ h => h) (HDW.out) rfl (fun w0 hw0 => by have := pw_cell_below hw0 HZ.out.1; go_simp) ?_
     simp only [Act.put, List.setIfInBounds_toArray, List.set_cons_zero, List.set_cons_succ]
     refine HR.take 1 (v := .agg #[.int .i64 lf, .int .i64 lt, .slice Al ls.length cl]) (by kernel_rfl) (by kernel_rfl) (fun _ => trivial) (by kernel_rfl) rfl (by kernel_rfl) (by kernel_rfl) (by kernel_rfl) (fun _ _ _ h => h) (HDW.out) rfl (fun w0 hw0 => by have := pw_cell_below hw0 HZ.out.2.1; have := pw_cell_below hw0 HZ.out.2.2.1; have := pw_cell_below hw0 HZ.out.2.2.2; go_simp) ?_
     simp only [Act.put, List.setIfInBounds_toArray, List.set_cons_zero, List.set_cons_succ]
     refine HR.one 2 (by kernel_rfl) rfl (fun K hK => ?_)
     go_simp
     refine ⟨trivial, (callsIn_wide.2 (region_band_rects.calls (ls.length + 1) lf lt Al cl ls (rectsS lf lt ls) _ (Kd.C_below HCL.out HDW.out) hnl (rects_f lf lt ls _ (Nat.lt_succ_self _) (by have h1 : ls.length ≤ 10000 := HLEN.out.2; omega)))).mono ?_⟩
     rintro e w4 ⟨v4, rfl, hr4, hb4⟩
     obtain ⟨A9, c9, rfl, hn9, hC9⟩ := Kd.R_reads hr4
     have HB7 := Lib.hid (HDW.out.trans (hb4.mono HDW.out.size))
     have HC9 := Lib.hid hC9
     clear hr4 hb4 hC9 hn9
     refine hK _ _ ⟨.inr HB7.out, ?_⟩; clear hK K
     obtain ⟨hv, ho, hl3, hs2, hk⟩ := cio_below HB7.out HV3.out HO3b.out HL33.out HO6.out HK3.out
     have HV7 := Lib.hid hv
     have HO7 := Lib.hid ho
     have HL7 := Lib.hid hl3
     have HR7 := Lib.hid hs2
     have HK7 := Lib.hid hk
     have HKO7 := Lib.hid (KeepsOthers.of_grownBy (grownBy_below_ HB7.out) (fun j o h _ => by cases h) : KeepsOthers w3 w4)
     clear hv ho hl3 hs2 hk
     refine HR.one 3 (by kernel_rfl) rfl (fun K hK => ?_)
     refine stepIn_append_rect (fun _ => trivial) rfl (.tmp 69) (.tmp 71) rfl W7.heap.size _ _ _ rfl HO7.out A9 c9 (rectsS lf lt ls) rfl HC9.out (by have h1 : ls.length ≤ 10000 := HLEN.out.2; have h2 := PL.out; have h3 : out.length ≤ pre.length * 10000 := HLEN.out.1; rw [rects_len]; omega) (by have := HK7.out.size; exact this) ?_
     intro v' w5 hown' hg'
     obtain ⟨Aw, cw, rfl⟩ := own_slice hown'
     simp only [Act.put, List.setIfInBounds_toArray, List.set_cons_zero, List.set_cons_succ]
     have HOW := Lib.hid hown'
     have HGR := Lib.hid hg'
     clear hown' hg'
     refine hK _ _ ⟨.inl (by decide), ?_⟩; clear hK K
     refine HR.one 4 (by kernel_rfl) rfl (fun K hK => ?_)
     have hbx5 : Boxed w5 wr.heap.size 22 (.slice Ao out.length co) := HV7.out.kept HGR.out (HV7.out.not_row (by decide) HO7.out)
     have y0 := hbx5.cell; have y1 := hbx5.frozen
     have HX5 := Lib.hid hbx5; clear hbx5
     go_simp
     refine hK _ _ ⟨.inl (by decide), ?_⟩; clear hK K
     refine HR.done (by kernel_rfl) (only_n ?_) _
     clear y0 y1
     have hl5 : w5.heap[wr.heap.size + 1]? = some (.cells #[.int .i64 lf, .int .i64 lt, .slice Al ls.length cl] 53 (0, 0)) := (HGR.out.block _ (Array.getElem?_eq_some_iff.1 HL7.out).1 (fun e => by have h1 := own_base HO7.out _ e.symm; have h2 := HC0.out; omega)).trans HL7.out
     have hl6 := (Below.heap_setCell w5 ⟨wr.heap.size, 0, none⟩ (.slice Aw (out.length + (rectsS lf lt ls).length) cw) (wr.heap.size + 1) (by simp)).trans hl5
     have z0 := (cell_of_row _ (wr.heap.size + 1) 0 _ _ _ hl6).trans (c := some (.int .i64 lf)) rfl; have g0 := frozen_of_row _ (wr.heap.size + 1) 0 _ _ hl6
     have z1 := (cell_of_row _ (wr.heap.size + 1) 1 _ _ _ hl6).trans (c := some (.int .i64 lt)) rfl; have g1 := frozen_of_row _ (wr.heap.size + 1) 1 _ _ hl6
     have z2 := (cell_of_row _ (wr.heap.size + 1) 2 _ _ _ hl6).trans (c := some (.slice Al ls.length cl)) rfl; have g2 := frozen_of_row _ (wr.heap.size + 1) 2 _ _ hl6
     clear hl5 hl6
     gi_wp2
     have hfin := CInv.next (ob := wr.heap.size) (lb := wr.heap.size + 1) (st := (out, lf, lt, ls)) (xs := rectsS lf lt ls) (s := rs) (f := fx) (t := tx) HV7.out HO7.out HL7.out HK7.out HR7.out HOW.out HGR.out (by omega) (by have := HC0.out; omega) (by have := HC0.out; omega) (Nat.le_refl _)
     refine ⟨HKO.out.trans (HKO7.out.trans hfin.2.1), ?_, ?_⟩
     ·obtain ⟨_, _, _, _, _, _, hk9⟩ := hfin.1
      exact ⟨Nat.le_trans HB6.out.size (Nat.le_trans HB7.out.size hfin.2.2), fun q hq hn => (hk9.block q hq hn).trans (HKP.out.block q hq hn).symm⟩
     ·show CInv _ _ _ _ (outB kp ca cb L (pre ++ [k])) _
      rw [HST.out, show stepB kp ca cb (out, lf, lt, ls) fx tx = (out ++ rectsS lf lt ls, fx, tx, rs) from by unfold stepB; rw [HRS.out, if_neg (fun h => H1.out h.2.1)]]
      exact hfin.1
    subst h1
    have KA := Lib.hid (C_of_span HO6.out); have KB := Lib.hid (C_of_span HS23.out)
    by_cases h2 : rs = ls
    ·have HEQ : Hid (region_span_44.f (rs.length + 1) rs ls = some true) := Lib.hid (by rw [equal_f rs ls _ (Nat.lt_succ_self _) (by have := HRL.out; omega)]; exact congrArg some (decide_eq_true h2)); have H2 := Lib.hid h2; clear h2
     gi_wp2_with fail
     refine ⟨trivial, (callsIn_wide.2 (region_span_44.calls (rs.length + 1) A6 c6 rs Al cl ls true w3 KA.out.1 KA.out.2 KB.out.1 KB.out.2 HEQ.out)).mono ?_⟩; rintro e w6 ⟨rfl, hd6⟩; have HD6 := Lib.hid hd6.below; clear hd6
     obtain ⟨hv, ho, hl3, hs2, hk⟩ := cio_below HD6.out HV3.out HO3b.out HL33.out HS23.out HK3.out
     have HV6 := Lib.hid hv
     have HO6b := Lib.hid ho
     have HL6 := Lib.hid hl3
     have HS6 := Lib.hid hs2
     have HK6 := Lib.hid hk
     have y1 := (cell_of_row _ (wr.heap.size + 1) 1 _ _ _ hl3).trans (c := some (.int .i64 lt)) rfl; have g1 := frozen_of_row _ (wr.heap.size + 1) 1 _ _ hl3
     clear hv ho hl3 hs2 hk z0 z1 z2
     gi_wp2
     have hfin := CInv.longer (ob := wr.heap.size) (lb := wr.heap.size + 1) (st := (out, lf, lt, ls)) ⟨_, _, HV6.out, HO6b.out, HL6.out, HS6.out, HK6.out⟩ (by omega) (by have := HC0.out; omega) tx
     refine ⟨HKO.out.trans ((KeepsOthers.of_grownBy (grownBy_below_ HD6.out) (fun j o h _ => by cases h)).trans (KeepsOthers.setCell _ _ _)), ?_, ?_⟩
     ·obtain ⟨_, _, _, _, _, _, hk9⟩ := hfin
      exact ⟨Nat.le_trans HB6.out.size (Nat.le_trans HD6.out.size (by simp [World.setCell])), fun q hq hn => (hk9.block q hq hn).trans (HKP.out.block q hq hn).symm⟩
     ·show CInv _ _ _ _ (outB kp ca cb L (pre ++ [k])) _
      rw [HST.out, show stepB kp ca cb (out, lf, lt, ls) lt tx = (out, lf, tx, ls) from by unfold stepB; rw [HRS.out, if_pos ⟨H0.out, rfl, H2.out⟩]]
      exact hfin
    ·have HEQ : Hid (region_span_44.f (rs.length + 1) rs ls = some false) := Lib.hid (by rw [equal_f rs ls _ (Nat.lt_succ_self _) (by have := HRL.out; omega)]; exact congrArg some (decide_eq_false h2)); have H2 := Lib.hid h2; clear h2
     gi_wp2_with fail
     refine ⟨trivial, (callsIn_wide.2 (region_span_44.calls (rs.length + 1) A6 c6 rs Al cl ls false w3 KA.out.1 KA.out.2 KB.out.1 KB.out.2 HEQ.out)).mono ?_⟩; rintro e w6 ⟨rfl, hd6⟩; have HD6 := Lib.hid hd6.below; clear hd6
     gi_upto_region 16 with (refine ⟨trivial, ?_⟩)
     obtain ⟨hv, ho, hl3, hs2, hk⟩ := cio_below HD6.out HV3.out HO3b.out HL33.out HS23.out HK3.out
     have HV6 := Lib.hid hv; have HO6b := Lib.hid ho; have HL6 := Lib.hid hl3; have HS6 := Lib.hid hs2; have HK6 := Lib.hid hk; have HO66 := Lib.hid (own_below HO6.out HD6.out); have HB66 := Lib.hid (HB6.out.trans (HD6.out.mono HB6.out.size)); have HKO6 := Lib.hid (HKO.out.trans (KeepsOthers.of_grownBy (grownBy_below_ HD6.out) (fun j o h _ => by cases h)))
     clear hv ho hl3 hs2 hk z0 z1 z2
     obtain ⟨hCl, hnl⟩ := C_of_span HS6.out
     have HCL := Lib.hid hCl
     have z0 := (cell_of_row w6 (wr.heap.size + 1) 0 _ _ _ HL6.out).trans (c := some (.int .i64 lf)) rfl
     have z1 := (cell_of_row w6 (wr.heap.size + 1) 1 _ _ _ HL6.out).trans (c := some (.int .i64 lt)) rfl
     have z2 := (cell_of_row w6 (wr.heap.size + 1) 2 _ _ _ HL6.out).trans (c := some (.slice Al ls.length cl)) rfl
     have z3 := HV6.out.cell
     have HZ : Hid (w6.cell? ⟨wr.heap.size, 0, none⟩ = some (.slice Ao out.length co) ∧ w6.cell? ⟨wr.heap.size + 1, 0, none⟩ = some (.int .i64 lf) ∧ w6.cell? ⟨wr.heap.size + 1, 1, none⟩ = some (.int .i64 lt) ∧ w6.cell? ⟨wr.heap.size + 1, 2, none⟩ = some (.slice Al ls.length cl)) := Lib.hid ⟨z3, z0, z1, z2⟩
     clear z0 z1 z2 z3 hCl
     refine wpIn_only ?_
     refine HR.region [3, 4] (fun w' => Below w6.heap.size w6 w') (by kernel_rfl) ?_
     have HDW : Hid (Below w6.heap.size w6 w6.drew) := Lib.hid (Below.drew (Below.refl _ _))
     refine HR.take 0 (v := .slice Ao out.length co) (by kernel_rfl) (by kernel_rfl) (fun _ => trivial) (by kernel_rfl) rfl (by kernel_rfl) (by kernel_rfl) (by kernel_rfl) (fun _ _ _ h => h) (HDW.out) rfl (fun w0 hw0 => by have := pw_cell_below hw0 HZ.out.1; go_simp) ?_
     simp only [Act.put, List.setIfInBounds_toArray, List.set_cons_zero, List.set_cons_succ]
     refine HR.take 1 (v := .agg #[.int .i64 lf, .int .i64 lt, .slice Al ls.length cl]) (by kernel_rfl) (by kernel_rfl) (fun _ => trivial) (by kernel_rfl) rfl (by kernel_rfl) (by kernel_rfl) (by kernel_rfl) (fun _ _ _ h => h) (HDW.out) rfl (fun w0 hw0 => by have := pw_cell_below hw0 HZ.out.2.1; have := pw_cell_below hw0 HZ.out.2.2.1; have := pw_cell_below hw0 HZ.out.2.2.2; go_simp) ?_
     simp only [Act.put, List.setIfInBounds_toArray, List.set_cons_zero, List.set_cons_succ]
     refine HR.one 2 (by kernel_rfl) rfl (fun K hK => ?_)
     go_simp
     refine ⟨trivial, (callsIn_wide.2 (region_band_rects.calls (ls.length + 1) lf lt Al cl ls (rectsS lf lt ls) _ (Kd.C_below HCL.out HDW.out) hnl (rects_f lf lt ls _ (Nat.lt_succ_self _) (by have h1 : ls.length ≤ 10000 := HLEN.out.2; omega)))).mono ?_⟩
     rintro e w4 ⟨v4, rfl, hr4, hb4⟩
     obtain ⟨A9, c9, rfl, hn9, hC9⟩ := Kd.R_reads hr4
     have HB7 := Lib.hid (HDW.out.trans (hb4.mono HDW.out.size))
     have HC9 := Lib.hid hC9
     clear hr4 hb4 hC9 hn9
     refine hK _ _ ⟨.inr HB7.out, ?_⟩; clear hK K
     obtain ⟨hv, ho, hl3, hs2, hk⟩ := cio_below HB7.out HV6.out HO6b.out HL6.out HO66.out HK6.out
     have HV7 := Lib.hid hv
     have HO7 := Lib.hid ho
     have HL7 := Lib.hid hl3
     have HR7 := Lib.hid hs2
     have HK7 := Lib.hid hk
     have HKO7 := Lib.hid (KeepsOthers.of_grownBy (grownBy_below_ HB7.out) (fun j o h _ => by cases h) : KeepsOthers w6 w4)
     clear hv ho hl3 hs2 hk
     refine HR.one 3 (by kernel_rfl) rfl (fun K hK => ?_)
     refine stepIn_append_rect (fun _ => trivial) rfl (.tmp 69) (.tmp 71) rfl W7.heap.size _ _ _ rfl HO7.out A9 c9 (rectsS lf lt ls) rfl HC9.out (by have h1 : ls.length ≤ 10000 := HLEN.out.2; have h2 := PL.out; have h3 : out.length ≤ pre.length * 10000 := HLEN.out.1; rw [rects_len]; omega) (by have := HK7.out.size; exact this) ?_
     intro v' w5 hown' hg'
     obtain ⟨Aw, cw, rfl⟩ := own_slice hown'
     simp only [Act.put, List.setIfInBounds_toArray, List.set_cons_zero, List.set_cons_succ]
     have HOW := Lib.hid hown'
     have HGR := Lib.hid hg'
     clear hown' hg'
     refine hK _ _ ⟨.inl (by decide), ?_⟩; clear hK K
     refine HR.one 4 (by kernel_rfl) rfl (fun K hK => ?_)
     have hbx5 : Boxed w5 wr.heap.size 22 (.slice Ao out.length co) := HV7.out.kept HGR.out (HV7.out.not_row (by decide) HO7.out)
     have y0 := hbx5.cell; have y1 := hbx5.frozen
     have HX5 := Lib.hid hbx5; clear hbx5
     go_simp
     refine hK _ _ ⟨.inl (by decide), ?_⟩; clear hK K
     refine HR.done (by kernel_rfl) (only_n ?_) _
     clear y0 y1
     have hl5 : w5.heap[wr.heap.size + 1]? = some (.cells #[.int .i64 lf, .int .i64 lt, .slice Al ls.length cl] 53 (0, 0)) := (HGR.out.block _ (Array.getElem?_eq_some_iff.1 HL7.out).1 (fun e => by have h1 := own_base HO7.out _ e.symm; have h2 := HC0.out; omega)).trans HL7.out
     have hl6 := (Below.heap_setCell w5 ⟨wr.heap.size, 0, none⟩ (.slice Aw (out.length + (rectsS lf lt ls).length) cw) (wr.heap.size + 1) (by simp)).trans hl5
     have z0 := (cell_of_row _ (wr.heap.size + 1) 0 _ _ _ hl6).trans (c := some (.int .i64 lf)) rfl; have g0 := frozen_of_row _ (wr.heap.size + 1) 0 _ _ hl6
     have z1 := (cell_of_row _ (wr.heap.size + 1) 1 _ _ _ hl6).trans (c := some (.int .i64 lt)) rfl; have g1 := frozen_of_row _ (wr.heap.size + 1) 1 _ _ hl6
     have z2 := (cell_of_row _ (wr.heap.size + 1) 2 _ _ _ hl6).trans (c := some (.slice Al ls.length cl)) rfl; have g2 := frozen_of_row _ (wr.heap.size + 1) 2 _ _ hl6
     clear hl5 hl6
     gi_wp2
     have hfin := CInv.next (ob := wr.heap.size) (lb := wr.heap.size + 1) (st := (out, lf, lt, ls)) (xs := rectsS lf lt ls) (s := rs) (f := lt) (t := tx) HV7.out HO7.out HL7.out HK7.out HR7.out HOW.out HGR.out (by omega) (by have := HC0.out; omega) (by have := HC0.out; omega) (Nat.le_refl _)
     refine ⟨HKO6.out.trans (HKO7.out.trans hfin.2.1), ?_, ?_⟩
     ·obtain ⟨_, _, _, _, _, _, hk9⟩ := hfin.1
      exact ⟨Nat.le_trans HB66.out.size (Nat.le_trans HB7.out.size hfin.2.2), fun q hq hn => (hk9.block q hq hn).trans (HKP.out.block q hq hn).symm⟩
     ·show CInv _ _ _ _ (outB kp ca cb L (pre ++ [k])) _
      rw [HST.out, show stepB kp ca cb (out, lf, lt, ls) lt tx = (out ++ rectsS lf lt ls, lt, tx, rs) from by unfold stepB; rw [HRS.out, if_neg (fun h => H2.out h.2.2)]]
      exact hfin.1
   case done =>
    rintro D xs Wx hD hS hI hDD
    have hxl : xs.length ≤ 10000 := by have h0 := congrArg List.length hS; rw [List.length_map, List.length_range] at h0; have := HEL.out; have := srtL_le (yendsS (ca ++ cb)); rw [HLL.out] at this; omega
    have HLEN := Lib.hid (outB_len kp ca cb (by have := HN.out; omega) L xs)
    obtain ⟨v, vs, hv, ho, hl3, hs2, hk⟩ := hI
    obtain ⟨st, hst⟩ : ∃ st, outB kp ca cb L xs = st := ⟨_, rfl⟩
    rw [hst] at ho hl3 hs2 HLEN
    rw [outB_all kp ca cb L xs hS] at hst
    have hcs : combS kp a b = combE st := by unfold combS; rw [HCA.out, HCB.out, HLL.out, hst]
    obtain ⟨out, lf, lt, ls⟩ := st
    obtain ⟨Ao, co, rfl⟩ := own_slice ho
    obtain ⟨Al, cl, rfl⟩ := own_slice hs2
    have HV := Lib.hid hv
    have HO := Lib.hid ho
    have HL3 := Lib.hid hl3
    have HS2 := Lib.hid hs2
    have HKP := Lib.hid hk
    have HDD := Lib.hid hDD
    have HD := Lib.hid hD
    have HCS := Lib.hid hcs
    have HXL := Lib.hid hxl
    have HCOV := Lib.hid hcov
    have H17 := Lib.hid h17
    have HC0 := Lib.hid (⟨hs6, hs7⟩ : wr.heap.size + 2 ≤ W6.heap.size ∧ W7.heap.size = W6.heap.size + 1)
    clear hv ho hl3 hs2 hk hDD hD hcs hst hxl hcov h17 hs6 hs7 hxs hnA hB7 hBO hBL h67 hlen
    gi_wp2_with fail
    obtain ⟨hCl, hnl⟩ := C_of_span HS2.out
    have HCL := Lib.hid hCl
    have z0 := (cell_of_row Wx (wr.heap.size + 1) 0 _ _ _ HL3.out).trans (c := some (.int .i64 lf)) rfl
    have z1 := (cell_of_row Wx (wr.heap.size + 1) 1 _ _ _ HL3.out).trans (c := some (.int .i64 lt)) rfl
    have z2 := (cell_of_row Wx (wr.heap.size + 1) 2 _ _ _ HL3.out).trans (c := some (.slice Al ls.length cl)) rfl
    have z3 := HV.out.cell
    have HZ : Hid (Wx.cell? ⟨wr.heap.size, 0, none⟩ = some (.slice Ao out.length co) ∧ Wx.cell? ⟨wr.heap.size + 1, 0, none⟩ = some (.int .i64 lf) ∧ Wx.cell? ⟨wr.heap.size + 1, 1, none⟩ = some (.int .i64 lt) ∧ Wx.cell? ⟨wr.heap.size + 1, 2, none⟩ = some (.slice Al ls.length cl)) := Lib.hid ⟨z3, z0, z1, z2⟩
    clear z0 z1 z2 z3 hCl
    refine wpIn_only ?_
    refine HR.region [3, 4] (fun w' => Below Wx.heap.size Wx w') (by kernel_rfl) ?_
    have HDW : Hid (Below Wx.heap.size Wx Wx.drew) := Lib.hid (Below.drew (Below.refl _ _))
    refine HR.take 0 (v := .slice Ao out.length co) (by kernel_rfl) (by kernel_rfl) (fun _ => trivial) (by kernel_rfl) rfl (by kernel_rfl) (by kernel_rfl) (by kernel_rfl) (fun _ _ _ h => h) (HDW.out) rfl (fun w0 hw0 => by have := pw_cell_below hw0 HZ.out.1; go_simp) ?_
    simp only [Act.put, List.setIfInBounds_toArray, List.set_cons_zero, List.set_cons_succ]
    refine HR.take 1 (v := .agg #[.int .i64 lf, .int .i64 lt, .slice Al ls.length cl]) (by kernel_rfl) (by kernel_rfl) (fun _ => trivial) (by kernel_rfl) rfl (by kernel_rfl) (by kernel_rfl) (by kernel_rfl) (fun _ _ _ h => h) (HDW.out) rfl (fun w0 hw0 => by have := pw_cell_below hw0 HZ.out.2.1; have := pw_cell_below hw0 HZ.out.2.2.1; have := pw_cell_below hw0 HZ.out.2.2.2; go_simp) ?_
    simp only [Act.put, List.setIfInBounds_toArray, List.set_cons_zero, List.set_cons_succ]
    refine HR.one 2 (by kernel_rfl) rfl (fun K hK => ?_)
    go_simp
    refine ⟨trivial, (callsIn_wide.2 (region_band_rects.calls (ls.length + 1) lf lt Al cl ls (rectsS lf lt ls) _ (Kd.C_below HCL.out HDW.out) hnl (rects_f lf lt ls _ (Nat.lt_succ_self _) (by have h1 : ls.length ≤ 10000 := HLEN.out.2; omega)))).mono ?_⟩
    rintro e w4 ⟨v4, rfl, hr4, hb4⟩
    obtain ⟨A9, c9, rfl, hn9, hC9⟩ := Kd.R_reads hr4
    have HB7 := Lib.hid (HDW.out.trans (hb4.mono HDW.out.size))
    have HC9 := Lib.hid hC9
    clear hr4 hb4 hC9 hn9
    refine hK _ _ ⟨.inr HB7.out, ?_⟩; clear hK K
    have HO7 := Lib.hid (own_below HO.out HB7.out)
    refine HR.one 3 (by kernel_rfl) rfl (fun K hK => ?_)
    refine stepIn_append_rect (fun _ => trivial) rfl (.tmp 77) (.tmp 79) rfl W7.heap.size _ _ _ rfl HO7.out A9 c9 (rectsS lf lt ls) rfl HC9.out (by have h1 : ls.length ≤ 10000 := HLEN.out.2; have h2 := HXL.out; have h3 : out.length ≤ xs.length * 10000 := HLEN.out.1; rw [rects_len]; omega) (Nat.le_trans HKP.out.size HB7.out.size) ?_
    intro v' w5 hown' hg'
    obtain ⟨Aw, cw, rfl⟩ := own_slice hown'
    simp only [Act.put, List.setIfInBounds_toArray, List.set_cons_zero, List.set_cons_succ]
    have HOW := Lib.hid hown'
    have HGR := Lib.hid (show World.grownBy w4 w5 (Value.slice Ao out.length co).ownBlock from hg')
    clear hown' hg'
    refine hK _ _ ⟨.inl (by decide), ?_⟩; clear hK K
    refine HR.one 4 (by kernel_rfl) rfl (fun K hK => ?_)
    go_simp
    refine hK _ _ ⟨.inl (by decide), ?_⟩; clear hK K
    refine HR.done (by kernel_rfl) (only_n ?_) _
    have hD5 : w5.heap[D]? = some (.deferred (some [])) := (HGR.out.block D (by have := (Array.getElem?_eq_some_iff.1 HDD.out).1; have := HB7.out.size; omega) (fun e => by
     rcases HO.out.2 with ⟨he, _⟩ | ⟨g', cap, cur, he, _, hg', _⟩
     ·rw [he] at e; cases e
     ·rw [he] at e; obtain rfl : D = g' := by simpa [Value.ownBlock] using e
      have := HDD.out; rw [this] at hg'; cases hg')).trans ((HB7.out.block D (Array.getElem?_eq_some_iff.1 HDD.out).1).trans HDD.out)
    have HD5 := Lib.hid hD5; clear hD5
    gi_wp2
    refine ⟨by first | (simp; done) | rfl | trivial | omega, .inl ⟨_, _, rfl, run_takeDeferred HD5.out, ?_⟩⟩
    have hbx := belowK_b (w := W7) (Nat.le_refl _) w5 D (.deferred (some [])) (.deferred none) HD.out HD5.out rfl rfl
    have hne : some D ≠ (Value.slice Aw (out.length + (rectsS lf lt ls).length) cw).ownBlock := by
     intro h
     rcases HOW.out.2 with ⟨he, _⟩ | ⟨g', cap, cur, he, _, hg', _⟩
     ·rw [he] at h; cases h
     ·rw [he] at h
      obtain rfl : D = g' := by simpa [Value.ownBlock] using h
      have := HD5.out; rw [this] at hg'; cases hg'
    refine ⟨_, results_tmp rfl _ _ _, _, rfl, ?_, ?_⟩
    ·have h1 := HOW.out.kept (grownBy_putObj' w5 D (.deferred none)) (.inr hne.symm)
     rw [HCS.out]
     show World.ownsRow _ _ _ _ _ (out ++ rectsS lf lt ls).length ((out ++ rectsS lf lt ls).flatMap cv_rect)
     rw [List.length_append, List.flatMap_append]
     exact World.ownsRow.mono h1 (by have h5 := HCOV.out.size; have h6 := H17.out.size; omega)
    ·have hq1 := HCOV.out; have hq2 := H17.out; have hq3 := HKP.out; have hq4 := HB7.out; have hq5 := HGR.out; have hz1 := hq1.size; have hz2 := hq2.size; have hz3 := hq3.size; have hz4 := HBr.out.size; have hz5 := HC0.out; have hz6 := hq4.size; have hz7 := hq5.size
     exact ⟨hbx.os.trans (hq5.os.trans (hq4.os.trans (hq3.os.trans (hq2.os.trans hq1.os)))), hbx.tape.trans (hq5.tape.trans (hq4.tape.trans (hq3.tape.trans (hq2.tape.trans hq1.tape)))), hbx.output.trans (hq5.output.trans (hq4.output.trans (hq3.output.trans (hq2.output.trans hq1.output)))), Nat.le_trans hz1 (Nat.le_trans hz2 (Nat.le_trans hz3 (Nat.le_trans hz6 (Nat.le_trans hz7 hbx.size)))), fun q hq => (hbx.block q (by omega)).trans ((hq5.block q (by omega) (fun e => by have := own_base HO.out q e.symm; omega)).trans ((hq4.block q (by omega)).trans ((hq3.block q (by omega) (by omega)).trans ((hq2.block q (by omega)).trans (hq1.block q hq)))))⟩
end

end Go.Proofs.Ytkobiblgbpnlaaa.X
