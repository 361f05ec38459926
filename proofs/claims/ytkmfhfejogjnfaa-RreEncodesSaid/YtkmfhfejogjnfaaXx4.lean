/- What each Go function that these laws use answers: as a Lean function, with the proof that the machine's call comes to it. Written by a program of this session (xprint.py). -/
import Derived.Test.YtkmfhfejogjnfaaXx0
namespace Go.Proofs.Ytkmfhfejogjnfaa.X
open Go.RowKit Go.Proofs.YtkmfhfejogjnfaaW.PrintWords Go.Proofs.YtkmfhfejogjnfaaW.PrintLast Go.Proofs.YtkmfhfejogjnfaaW.PrintMore
attribute [local go_sem] max2_int min2_int max_two min_two max_three min_three max_four min_four   -- for this text's walks alone
set_option linter.unusedVariables false
set_option linter.unusedSimpArgs false

/-! ### rre_grid_piece: function 27 -/
theorem rd_getD (l : List Int) (i : Nat) : rd l (i : Int) = l.getD i 0 := by unfold rd; rw [Int.toNat_natCast]
theorem rdOf_getD (l : List Bool) (i : Nat) : rdOf false l (i : Int) = l.getD i false := by unfold rdOf; rw [Int.toNat_natCast]
set_option maxHeartbeats 8000000 in
set_option maxRecDepth 100000 in
/-- free, with its world kept as it is. -/
theorem free_c (W : World) (g : Nat) (wd ht : Int) (A B : Option Addr) (c d nv nt : Nat) (vals : List Int) (tk : List Bool) (hG : W.heap[g]? = some (.cells #[.int .i64 wd, .int .i64 ht, .slice A nv c, .slice B nt d] 58 (0, 0))) (h1 : Kd.C (Kd.int .i64) W A nv vals) (h2 : Kd.C Kd.bool W B nt tk)
    (v : Int) (x y n at_ : Nat) (hn1 : at_ + n ≤ nv) (hn2 : at_ + n ≤ nt) (hlen : nv ≤ 1000000) (hat : wrap64 (wrap64 ((y : Int) * wd) + (x : Int)) = (at_ : Int)) :
    Calls Try.prog 53 #[.pointer (some ⟨g, 0, none⟩), .int .i64 v, .int .i64 (x : Int), .int .i64 (y : Int), .int .i64 (n : Int)] W fun e w' => e = .returned (.bool (freeN vals tk v at_ n)) ∧ w' = W := by
  have H1 := Lib.hid h1; have H2 := Lib.hid h2; have HN := Lib.hid (And.intro hn1 (And.intro hn2 hlen))
  have hc0 := (blk_cell hG 0).trans rfl; have hc2 := (blk_cell hG 2).trans rfl; have hc3 := (blk_cell hG 3).trans rfl
  clear h1 h2 hn1 hn2 hlen
  obtain ⟨R, hR⟩ : ∃ R, freeN vals tk v at_ n = R := ⟨_, rfl⟩
  have HR := Lib.hid hR
  rw [hR]; clear hR
  go_enter Try.func53, Try.ntmps53
  go_wp2
  go_loopw [4, 11] (fun m q w' => ∃ (k : Nat), k ≤ n ∧ m = .int .i64 ((n - k : Nat) : Int) ∧ q = .int .i64 ((at_ + k : Nat) : Int) ∧ Hid (freeN vals tk v (at_ + k) (n - k) = R) ∧ w' = W) (fun m _ _ => (intOf m).toNat)
  case atStart => exact ⟨0, Nat.zero_le _, rfl, (by rw [hat, Nat.add_zero]), HR, rfl⟩
  case round =>
    obtain ⟨k, hk, rfl, rfl, HF, rfl⟩ := hrel
    by_cases hlt : k < n
    · obtain ⟨m, hm⟩ : ∃ m, n - k = m + 1 := ⟨n - k - 1, by omega⟩
      rw [hm] at HF ⊢
      obtain ⟨j, hj⟩ : ∃ j, at_ + k = j := ⟨_, rfl⟩
      rw [hj] at HF ⊢
      have hjv : j < nv := by have := HN.out; omega
      have hjt : j < nt := by have := HN.out; omega
      have hj9 : j ≤ 1000000 := by have := HN.out; omega
      have hm9 : m ≤ 1000000 := by have := HN.out; omega
      have hF := HF.out
      unfold freeN at hF
      obtain ⟨a1, e1, x1⟩ := Kd.at_int H1.out (j : Int) (by omega) (by omega)
      obtain ⟨a2, e2, x2⟩ := Kd.at_bool H2.out (j : Int) (by omega) (by omega)
      rw [rd_getD, Int.toNat_natCast] at x1
      rw [rdOf_getD, Int.toNat_natCast] at x2
      obtain ⟨va, hva⟩ : ∃ va, vals.getD j 0 = va := ⟨_, rfl⟩
      obtain ⟨ba, hba⟩ : ∃ ba, tk.getD j false = ba := ⟨_, rfl⟩
      rw [hva] at hF x1
      rw [hba] at hF x2
      have HK := Lib.hid (And.intro hk (And.intro hm (And.intro hj hlt)))
      have p0 : (0 : Int) ≤ (j : Int) := by omega
      have p1 : (j : Int) < (nv : Int) := by omega
      have p2 : (j : Int) < (nt : Int) := by omega
      have p3 : decide ((0 : Int) < ((m + 1 : Nat) : Int)) = true := decide_eq_true (by omega)
      have w1 : wrap64 (((m + 1 : Nat) : Int) - 1) = (m : Int) := by unfold wrap64; omega
      have w2 : wrap64 ((j : Int) + 1) = ((j + 1 : Nat) : Int) := by unfold wrap64; omega
      obtain ⟨M, hM⟩ : ∃ M : Int, ((m + 1 : Nat) : Int) = M := ⟨_, rfl⟩
      rw [hM] at p3 w1 ⊢
      have HM := Lib.hid hM
      obtain ⟨J2, hJ2⟩ : ∃ M : Int, ((j + 1 : Nat) : Int) = M := ⟨_, rfl⟩
      rw [hJ2] at w2
      have HJ2 := Lib.hid hJ2
      subst e1 e2
      have HFF := Lib.hid hF
      clear hM hJ2 hva hba hk hm hj hlt hF hjv hjt hj9 hm9 HF HR
      by_cases hv : va = v
      · have q1 : (va == v) = true := by simpa using hv
        have q2 : (va != v) = false := by simpa using hv
        cases ba with
        | true =>
          have hRR : R = false := by rw [← HFF.out]; simp
          subst hRR
          go_wp2
          go_ret
          exact ⟨rfl, rfl⟩
        | false =>
          have HT : Hid (freeN vals tk v (j + 1) m = R) := Lib.hid (by rw [← HFF.out]; simp [hv])
          subst hv
          go_wp2
          go_roundw
          case rel => have := HK.out; exact ⟨k + 1, by omega, by rw [show n - (k + 1) = m by omega, w1], by rw [show at_ + (k + 1) = j + 1 by omega, HJ2.out, w2], by rw [show n - (k + 1) = m by omega, show at_ + (k + 1) = j + 1 by omega]; exact HT, by first | rfl | trivial⟩
          case measure => rw [w1, ← HM.out]; simp [intOf]
      · have q1 : (va == v) = false := by simpa using hv
        have q2 : (va != v) = true := by simpa using hv
        have hRR : R = false := by rw [← HFF.out]; simp [hv]
        subst hRR
        go_wp2
        go_ret
        exact ⟨rfl, rfl⟩
    · have hkn : k = n := by omega
      subst hkn
      rw [Nat.sub_self] at HF ⊢
      have hRR : R = true := HF.out.symm
      subst hRR
      go_wp2
      go_ret
      exact ⟨rfl, rfl⟩
theorem grown_set {W w : World} {row : Option Nat} (h : W.grownBy w row) {p : Addr} (hp : W.heap.size ≤ p.block ∨ row = some p.block) (u : Value) : W.grownBy (w.setCell p u) row :=
  ⟨h.os, h.tape, h.output, by simpa [World.setCell] using h.size, fun k hk hr => (heap_setCell_other w p k u (fun e => hp.elim (fun h1 => by omega) (fun h1 => hr (by rw [h1, e])))).trans (h.block k hk hr)⟩
theorem own_far {w : World} {base e size n : Nat} {v : Value} {xs : List Value} (h : w.ownsRow base e size v n xs) {p : Addr} (hp : v.ownBlock ≠ some p.block) (u : Value) : (w.setCell p u).ownsRow base e size v n xs :=
  h.kept (row := some p.block) ⟨rfl, rfl, rfl, by simp, fun k _ hk => heap_setCell_other w p k u (fun e => hk (by simp [e]))⟩ (.inr hp)
/-- The worlds of piece: the result's box, the rectangle's, and what is taken. -/
structure PW (W : World) (base tb nv rb : Nat) (x y p q : Int) (tk : List Bool) (wr : World) : Prop where
  grown : W.grownBy wr (some tb)
  old : tb < W.heap.size
  res : wr.heap[W.heap.size]? = some (.cells #[.int .i64 0, .int .i64 0, .int .i64 0, .int .i64 0, .int .i64 0] 31 (0, 0))
  far : rb = W.heap.size + 1
  rect : wr.heap[rb]? = some (.cells #[.int .i64 x, .int .i64 y, .int .i64 p, .int .i64 q] 29 (0, 0))
  own : wr.ownsRow base 4 1 (.slice (some ⟨tb, 0, none⟩) nv nv) nv (tk.map Value.bool)
section
variable {W wr : World} {base tb nv rb : Nat} {x y p q : Int} {tk : List Bool}
theorem PW.drewN (h : PW W base tb nv rb x y p q tk wr) (n : Nat) : PW W base tb nv rb x y p q tk (wr.drewN n) :=
  ⟨⟨h.grown.os, h.grown.tape, h.grown.output, h.grown.size, h.grown.block⟩, h.old, h.res, h.far, h.rect, h.own⟩
theorem PW.setp (h : PW W base tb nv rb x y p q tk wr) (p2 : Int) : PW W base tb nv rb x y p2 q tk (wr.setCell ⟨rb, 2, none⟩ (.int .i64 p2)) :=
  ⟨grown_set h.grown (.inl (by rw [h.far]; exact Nat.le_succ _)) _, h.old, (heap_setCell_other _ _ _ _ (by rw [h.far]; simp)).trans h.res, h.far, by have := heap_setCell_same wr rb 2 _ _ (.int .i64 p2) h.rect; simpa using this, own_far h.own (by have := h.old; have := h.far; simp [Value.ownBlock]; omega) _⟩
theorem PW.setq (h : PW W base tb nv rb x y p q tk wr) (q2 : Int) : PW W base tb nv rb x y p q2 tk (wr.setCell ⟨rb, 3, none⟩ (.int .i64 q2)) :=
  ⟨grown_set h.grown (.inl (by rw [h.far]; exact Nat.le_succ _)) _, h.old, (heap_setCell_other _ _ _ _ (by rw [h.far]; simp)).trans h.res, h.far, by have := heap_setCell_same wr rb 3 _ _ (.int .i64 q2) h.rect; simpa using this, own_far h.own (by have := h.old; have := h.far; simp [Value.ownBlock]; omega) _⟩
theorem PW.stored (h : PW W base tb nv rb x y p q tk wr) (j : Nat) : PW W base tb nv rb x y p q (tk.set j true) (wr.setCell ⟨tb, j, none⟩ (.bool true)) :=
  ⟨grown_set h.grown (.inr rfl) _, h.old, (heap_setCell_other _ _ _ _ (by have := h.old; simp; omega)).trans h.res, h.far, (heap_setCell_other _ _ _ _ (by have := h.old; have := h.far; simp; omega)).trans h.rect, by rw [List.map_set]; exact (h.own.stored j (.bool true)).1⟩
theorem PW.cell (h : PW W base tb nv rb x y p q tk wr) (j : Nat) (hj : j < nv) : (∃ u, wr.cell? ⟨tb, j, none⟩ = some u) ∧ wr.frozen? ⟨tb, j, none⟩ = false := by
  have hl : tk.length = nv := by have := h.own.1; rw [List.length_map] at this; omega
  have h2 := h.own.cells (g := tb) rfl j (.bool (tk[j]'(by omega))) (by rw [List.getElem?_map, List.getElem?_eq_getElem (by omega)]; rfl)
  rw [Addr.add_lit, Nat.zero_add] at h2
  refine ⟨⟨_, h2⟩, ?_⟩
  rcases h.own.2 with ⟨he, _⟩ | ⟨g', cap, cur, he, _, hg, _⟩
  · injection he with e1; cases e1
  · injection he with e1; injection e1 with e1; injection e1 with e1; subst e1; exact blk_frozen hg j
theorem PW.start {V2 : World} (hb : Below W.heap.size W V2) (hs : V2.heap.size = W.heap.size + 1) (hr : V2.heap[W.heap.size]? = some (.cells #[.int .i64 0, .int .i64 0, .int .i64 0, .int .i64 0, .int .i64 0] 31 (0, 0))) (ht : tb < W.heap.size) (ho : W.ownsRow base 4 1 (.slice (some ⟨tb, 0, none⟩) nv nv) nv (tk.map Value.bool)) :
    PW W base tb nv V2.heap.size x y 1 1 tk (V2.alloc (.cells #[.int .i64 x, .int .i64 y, .int .i64 1, .int .i64 1] 29)) := by
  have hb2 : Below W.heap.size W (V2.alloc (.cells #[.int .i64 x, .int .i64 y, .int .i64 1, .int .i64 1] 29)) := below_alloc hb _
  have hg : W.grownBy (V2.alloc (.cells #[.int .i64 x, .int .i64 y, .int .i64 1, .int .i64 1] 29)) none := ⟨hb2.os, hb2.tape, hb2.output, hb2.size, fun k hk _ => hb2.block k hk⟩
  exact ⟨⟨hb2.os, hb2.tape, hb2.output, hb2.size, fun k hk _ => hb2.block k hk⟩, ht, (Below.heap_alloc _ _ _ (by omega)).trans hr, hs, heap_alloc_new _ _, ho.kept hg (.inr (by simp [Value.ownBlock]))⟩
theorem PW.put (h : W.grownBy wr (some tb) ∧ wr.ownsRow base 4 1 (.slice (some ⟨tb, 0, none⟩) nv nv) nv (tk.map Value.bool)) (ht : tb < W.heap.size) (j : Nat) (u : Value) :
    W.grownBy (wr.setCell ⟨W.heap.size, j, none⟩ u) (some tb) ∧ (wr.setCell ⟨W.heap.size, j, none⟩ u).ownsRow base 4 1 (.slice (some ⟨tb, 0, none⟩) nv nv) nv (tk.map Value.bool) :=
  ⟨grown_set h.1 (.inl (Nat.le_refl _)) _, own_far h.2 (by simp [Value.ownBlock]; omega) _⟩
theorem PW.fin (h : PW W base tb nv rb x y p q tk wr) (v : Int) :
    (((((wr.setCell ⟨W.heap.size, 0, none⟩ (.int .i64 v)).setCell ⟨W.heap.size, 1, none⟩ (.int .i64 x)).setCell ⟨W.heap.size, 2, none⟩ (.int .i64 y)).setCell ⟨W.heap.size, 3, none⟩ (.int .i64 p)).setCell ⟨W.heap.size, 4, none⟩ (.int .i64 q)).heap[W.heap.size]? = some (.cells #[.int .i64 v, .int .i64 x, .int .i64 y, .int .i64 p, .int .i64 q] 31 (0, 0)) :=
  blk_put (blk_put (blk_put (blk_put (blk_put h.res 0 _ rfl) 1 _ rfl) 2 _ rfl) 3 _ rfl) 4 _ rfl
theorem PW.fin2 (h : PW W base tb nv rb x y p q tk wr) (u0 u1 u2 u3 u4 : Value) :
    W.grownBy (((((wr.setCell ⟨W.heap.size, 0, none⟩ u0).setCell ⟨W.heap.size, 1, none⟩ u1).setCell ⟨W.heap.size, 2, none⟩ u2).setCell ⟨W.heap.size, 3, none⟩ u3).setCell ⟨W.heap.size, 4, none⟩ u4) (some tb) ∧ (((((wr.setCell ⟨W.heap.size, 0, none⟩ u0).setCell ⟨W.heap.size, 1, none⟩ u1).setCell ⟨W.heap.size, 2, none⟩ u2).setCell ⟨W.heap.size, 3, none⟩ u3).setCell ⟨W.heap.size, 4, none⟩ u4).ownsRow base 4 1 (.slice (some ⟨tb, 0, none⟩) nv nv) nv (tk.map Value.bool) :=
  PW.put (PW.put (PW.put (PW.put (PW.put (And.intro h.grown h.own) h.old 0 u0) h.old 1 u1) h.old 2 u2) h.old 3 u3) h.old 4 u4
theorem C_grown {A : Addr} {n : Nat} {l : List Int} (h : Kd.C (Kd.int .i64) W (some A) n l) (hg : W.grownBy wr (some tb)) (hne : A.block ≠ tb) : Kd.C (Kd.int .i64) wr (some A) n l := by
  refine ⟨h.1, h.2.1, fun hp => ?_⟩
  obtain ⟨a, ha, hh⟩ := h.2.2 hp
  refine ⟨a, ha, fun j p hj => ?_⟩
  obtain ⟨cs, h1, h2, h3⟩ := hh j p hj
  refine ⟨cs, h1, h2, fun i u hi => hg.cell (h3 i u hi) ?_⟩
  injection ha with ha
  subst ha
  exact fun e => hne (by have h9 := Option.some.inj e; unfold Addr.add at h9; split at h9 <;> exact h9)
end
theorem own_boolC {w : World} {base tb n : Nat} {tk : List Bool} (ho : w.ownsRow base 4 1 (.slice (some ⟨tb, 0, none⟩) n n) n (tk.map Value.bool)) : Kd.C Kd.bool w (some ⟨tb, 0, none⟩) n tk := by
  have hl : tk.length = n := by have := ho.1; rw [List.length_map] at this; omega
  rcases ho.2 with ⟨he, h1⟩ | ⟨g, cap, cur, he, hbg, hg, hnc, hcm, _, _⟩
  · injection he with e1 e2 e3; cases e1
  · injection he with e1 e2 e3
    subst e3
    refine ⟨hl, by unfold maxLen at hcm; omega, fun hp => ⟨_, rfl, fun j p hj => ⟨[.bool p], rfl, rfl, fun i u hi => ?_⟩⟩⟩
    have hi2 : i < 1 := (List.getElem?_eq_some_iff.1 hi).1
    obtain rfl : i = 0 := by omega
    obtain rfl : Value.bool p = u := by simpa using hi
    have h2 := ho.cells (g := tb) rfl j (.bool p) (by rw [List.getElem?_map, hj]; rfl)
    rw [show Kd.bool.sz = 1 from rfl, Nat.mul_one, Nat.add_zero]; exact h2
theorem wrap_nat (n : Nat) (h : n ≤ 1000000000) : wrap64 (n : Int) = (n : Int) := by unfold wrap64; omega
theorem wrap_add (a b c : Nat) (h : a + b = c) (hc : c ≤ 1000000000) : wrap64 ((a : Int) + (b : Int)) = (c : Int) := by rw [← Int.natCast_add, h]; exact wrap_nat c hc
theorem wrap_succ (n : Nat) (h : n ≤ 1000000) : wrap64 ((n : Int) + 1) = ((n + 1 : Nat) : Int) := by unfold wrap64; omega
theorem wrap_mul (a b c : Nat) (h : a * b = c) (hc : c ≤ 1000000000) : wrap64 ((a : Int) * (b : Int)) = (c : Int) := by rw [← Int.natCast_mul, h]; exact wrap_nat c hc
theorem wrap_to {a b : Int} (h : wrap64 a = b) : IntKind.i64.wrap a = b := by rw [IntKind.wrap_i64]; unfold wrap64 at h; exact h
set_option maxHeartbeats 8000000 in
set_option maxRecDepth 100000 in
/-- The piece at a place; its places are taken. -/
theorem piece_c (W : World) (g tb base : Nat) (wd ht : Nat) (A : Option Addr) (c nv : Nat) (vals : List Int) (tk : List Bool) (hG : W.heap[g]? = some (.cells #[.int .i64 (wd : Int), .int .i64 (ht : Int), .slice A nv c, .slice (some ⟨tb, 0, none⟩) nv nv] 58 (0, 0))) (h1 : Kd.C (Kd.int .i64) W A nv vals) (hA : ∀ a, A = some a → a.block ≠ tb) (hgt : g ≠ tb)
    (ho : W.ownsRow base 4 1 (.slice (some ⟨tb, 0, none⟩) nv nv) nv (tk.map Value.bool)) (hnv : nv = wd * ht) (hlen : nv ≤ 1000000) (x y : Nat) (hx : x < wd) (hy : y < ht) (hw9 : wd ≤ 1000000) (hh9 : ht ≤ 1000000) :
    Calls Try.prog 27 #[.pointer (some ⟨g, 0, none⟩), .int .i64 (x : Int), .int .i64 (y : Int)] W fun e w' => e = .returned (.agg #[.int .i64 (vals.getD (y * wd + x) 0), .int .i64 (x : Int), .int .i64 (y : Int), .int .i64 (wideP vals tk wd x y : Int), .int .i64 (highP vals tk wd ht x y : Int)]) ∧
      w'.ownsRow base 4 1 (.slice (some ⟨tb, 0, none⟩) nv nv) nv ((setB tk (y * wd + x) wd (wideP vals tk wd x y) (highP vals tk wd ht x y)).map Value.bool) ∧ W.grownBy w' (some tb) := by
  have htb : tb < W.heap.size := by
    rcases ho.2 with ⟨he, _⟩ | ⟨g', cap, cur, he, _, hg, _⟩
    · injection he with e1; cases e1
    · injection he with e1; injection e1 with e1; injection e1 with e1; subst e1; exact (Array.getElem?_eq_some_iff.1 hg).1
  have hgl : g < W.heap.size := (Array.getElem?_eq_some_iff.1 hG).1
  have hidx : ∀ a b : Nat, a < wd → b < ht → b * wd + a < nv := fun a b ha hb => by
    have h3 : (b + 1) * wd ≤ ht * wd := Nat.mul_le_mul_right wd hb
    rw [Nat.add_mul, Nat.one_mul] at h3
    rw [hnv, Nat.mul_comm wd ht]; omega
  have hP := hidx x y hx hy
  have HNV := Lib.hid hnv
  clear hnv
  have hyw : y * wd ≤ 1000000 := by omega
  obtain ⟨v, hv⟩ : ∃ v, vals.getD (y * wd + x) 0 = v := ⟨_, rfl⟩
  obtain ⟨a0, ea, x0⟩ := Kd.at_int h1 ((y * wd + x : Nat) : Int) (by omega) (by omega)
  rw [rd_getD, Int.toNat_natCast, hv] at x0
  have hna : a0.block ≠ tb := hA a0 ea
  obtain ⟨P, hPP⟩ : ∃ P, y * wd + x = P := ⟨_, rfl⟩
  obtain ⟨YW, hYW⟩ : ∃ P, y * wd = P := ⟨_, rfl⟩
  rw [hPP] at x0 hv hP
  rw [hYW] at hyw hPP
  have p0 : (0 : Int) ≤ (P : Int) := by omega
  have p1 : (P : Int) < (nv : Int) := by omega
  have W1 := Lib.hid (wrap_mul _ _ _ hYW (by omega))
  have W2 := Lib.hid (wrap_add _ _ _ hPP (by omega))
  have hc0 := (blk_cell hG 0).trans rfl; have hc1 := (blk_cell hG 1).trans rfl; have hc2 := (blk_cell hG 2).trans rfl; have hc3 := (blk_cell hG 3).trans rfl
  have HC := Lib.hid h1
  go_enter Try.func27, Try.ntmps27
  have BK := (heap_alloc_new W (.cells #[.int .i64 0, .int .i64 0, .int .i64 0, .int .i64 0, .int .i64 0] 31))
  obtain ⟨V1, hV1⟩ : ∃ X, W.alloc (.cells #[.int .i64 0, .int .i64 0, .int .i64 0, .int .i64 0, .int .i64 0] 31) = X := ⟨_, rfl⟩
  have hb1 : Below W.heap.size W V1 := by rw [← hV1]; exact below_alloc (Below.refl _ _) _
  have hs1 : V1.heap.size = W.heap.size + 1 := by rw [← hV1]; simp
  rw [hV1] at BK
  have hc0' := (hb1.cell (p := ⟨g, 0, none⟩) hgl).trans hc0
  have hc1' := (hb1.cell (p := ⟨g, 1, none⟩) hgl).trans hc1
  have hc2' := (hb1.cell (p := ⟨g, 2, none⟩) hgl).trans hc2
  have hc3' := (hb1.cell (p := ⟨g, 3, none⟩) hgl).trans hc3
  have x0' := pw_cell_below hb1 x0
  clear hc0 hc1 hc2 hc3 x0
  subst ea
  have HB1 := Lib.hid hb1; have HS1 := Lib.hid hs1; have HBK := Lib.hid BK; have HOO := Lib.hid ho; have HGG := Lib.hid hG
  clear hb1 hs1 BK ho h1 hG
  go_wp2
  try rw [hV1]
  have HV1 := Lib.hid hV1
  clear hV1
  have w1 := wrap_to W1.out
  have w2 := wrap_to W2.out
  go_quiet (fail)
  clear w1 w2
  obtain ⟨V2, hV2⟩ : ∃ X, V1.drewN nq = X := ⟨_, rfl⟩
  have HB2 := Lib.hid (show Below W.heap.size W V2 by rw [← hV2]; exact pw_below_drewN HB1.out _)
  have HS2 := Lib.hid (show V2.heap.size = W.heap.size + 1 by rw [← hV2]; exact HS1.out)
  have HR2 := Lib.hid (show V2.heap[W.heap.size]? = some (.cells #[.int .i64 0, .int .i64 0, .int .i64 0, .int .i64 0, .int .i64 0] 31 (0, 0)) by rw [← hV2]; exact HBK.out)
  rw [hV2]
  clear hc0' hc1' hc2' hc3' x0'
  have HV2 := Lib.hid hV2
  clear hV2
  obtain ⟨WD, hWD⟩ : ∃ WD, wideP vals tk wd x y = WD := ⟨_, rfl⟩
  obtain ⟨HT, hHT⟩ : ∃ WD, highP vals tk wd ht x y = WD := ⟨_, rfl⟩
  have HWD := Lib.hid hWD; have HHT := Lib.hid hHT
  have GC : Hid (∀ wr p q tk', PW W base tb nv V2.heap.size x y p q tk' wr → wr.cell? ⟨g, 0, none⟩ = some (.int .i64 (wd : Int)) ∧ wr.cell? ⟨g, 1, none⟩ = some (.int .i64 (ht : Int)) ∧ wr.cell? ⟨g, 2, none⟩ = some (.slice (some a0) nv c) ∧ wr.cell? ⟨g, 3, none⟩ = some (.slice (some ⟨tb, 0, none⟩) nv nv)) := Lib.hid (fun wr p q tk' h => by
    have h1 := (h.grown.block g hgl (by simpa using hgt)).trans HGG.out
    exact ⟨(blk_cell h1 0).trans rfl, (blk_cell h1 1).trans rfl, (blk_cell h1 2).trans rfl, (blk_cell h1 3).trans rfl⟩)
  clear hWD hHT
  go_upto_block 0 with (fail)
  go_cut [] (fun wx => Hid (PW W base tb nv V2.heap.size x y WD 1 tk wx))
  case first =>
    go_wp2_with fail
    go_loopg [] (wd - x - 1) (fun kq w' => ∃ p : Nat, 1 ≤ p ∧ x + p + kq = wd ∧ Hid (p + RR.ext (fun a => freeN vals tk v (YW + a) 1) (x + p) kq = WD) ∧ Hid (PW W base tb nv V2.heap.size x y p 1 tk w'))
    case atStart =>
      exact ⟨1, Nat.le_refl _, by omega, Lib.hid (by rw [← HWD.out]; unfold wideP; rw [hYW, hPP, hv]), Lib.hid (PW.start HB2.out HS2.out HR2.out htb HOO.out)⟩
    case round =>
      obtain ⟨p, hp1, hpk, HX, HPW⟩ := hrel
      obtain ⟨c0, c1, c2, c3⟩ := GC.out _ _ _ _ HPW.out
      have r2 := (blk_cell HPW.out.rect 2).trans rfl
      have f2 := blk_frozen HPW.out.rect 2
      obtain ⟨XP, hXP⟩ : ∃ XP, x + p = XP := ⟨_, rfl⟩
      have W3 := Lib.hid (wrap_add _ _ _ hXP (by omega))
      cases gk with
      | zero =>
        have d0 : decide ((XP : Int) < (wd : Int)) = false := decide_eq_false (by omega)
        have d1 : decide (XP < wd) = false := decide_eq_false (by omega)
        have hpw : Hid (p = WD) := Lib.hid (by have := HX.out; unfold RR.ext at this; omega)
        have w3 := wrap_to W3.out
        clear hXP
        go_wp2
        go_quiet (fail)
        clear w3
        go_wp2
        go_meet
        exact Lib.hid (by rw [← hpw.out]; exact HPW.out.drewN _)
      | succ m =>
        have d0 : decide ((XP : Int) < (wd : Int)) = true := decide_eq_true (by omega)
        have d1 : decide (XP < wd) = true := decide_eq_true (by omega)
        have hq0 : YW + XP + 1 ≤ nv := by have := hidx XP y (by omega) hy; rw [hYW] at this; omega
        have FC := Lib.hid (fun n => free_c (wr.drewN n) g wd ht (some a0) (some ⟨tb, 0, none⟩) c nv nv nv vals tk ((HPW.out.grown.block g hgl (by simpa using hgt)).trans HGG.out) (C_grown HC.out (HPW.out.drewN n).grown hna) (own_boolC (HPW.out.drewN n).own) v XP y 1 (YW + XP) hq0 hq0 hlen (by rw [wrap_mul _ _ _ hYW (by omega)]; exact wrap_add _ _ _ rfl (by omega)))
        have w3 := wrap_to W3.out
        clear hq0
        have hxx := HX.out
        unfold RR.ext at hxx
        rw [hXP] at hxx
        have HXX := Lib.hid hxx; have HXP := Lib.hid (And.intro hXP hpk)
        clear hxx hXP hpk
        obtain ⟨b, hb⟩ : ∃ b, freeN vals tk v (YW + XP) 1 = b := ⟨_, rfl⟩
        have FB := Lib.hid hb
        rw [hb] at FC
        clear hb
        cases b with
        | true =>
          go_wp2
          go_quiet ((go_at_call 53; exact Calls.quiet_of_same (FC.out _)))
          clear w3
          go_wp2
          go_roundg m
          case measure => exact Nat.lt_succ_self _
          case rel =>
            have hxp := HXP.out
            refine ⟨p + 1, by omega, by omega, Lib.hid ?_, Lib.hid ?_⟩
            · have h := HXX.out
              simp only [FB.out, if_true] at h
              rw [show x + (p + 1) = XP + 1 by omega]; omega
            · rw [wrap_succ p (by omega)]; exact (HPW.out.drewN _).setp _
        | false =>
          go_wp2
          go_quiet ((go_at_call 53; exact Calls.quiet_of_same (FC.out _)))
          clear w3
          go_wp2
          go_meet
          have h := HXX.out
          simp only [FB.out, Bool.false_eq_true, if_false, Nat.add_zero] at h
          exact Lib.hid (by rw [← h]; exact HPW.out.drewN _)
  case rest =>
    have HPC := Lib.hid hcut.out
    clear hcut
    have hwok : 1 ≤ WD ∧ x + WD ≤ wd := by rw [← HWD.out]; exact wideP_ok vals tk wd x y hx
    go_upto_block 2 with (fail)
    go_cut [] (fun wx => Hid (PW W base tb nv V2.heap.size x y WD HT tk wx))
    case first =>
      go_wp2_with fail
      go_loopg [] (ht - y - 1) (fun kq w' => ∃ q : Nat, 1 ≤ q ∧ y + q + kq = ht ∧ Hid (q + RR.ext (fun b => freeN vals tk v (b * wd + x) WD) (y + q) kq = HT) ∧ Hid (PW W base tb nv V2.heap.size x y WD q tk w'))
      case atStart =>
        exact ⟨1, Nat.le_refl _, by omega, Lib.hid (by rw [← HHT.out]; unfold highP; rw [hYW, hPP, hv, HWD.out]), HPC⟩
      case round =>
        obtain ⟨q, hp1, hpk, HX, HPW⟩ := hrel
        obtain ⟨c0, c1, c2, c3⟩ := GC.out _ _ _ _ HPW.out
        have r2 := (blk_cell HPW.out.rect 2).trans rfl
        have r3 := (blk_cell HPW.out.rect 3).trans rfl
        have f3 := blk_frozen HPW.out.rect 3
        obtain ⟨YQ, hYQ⟩ : ∃ YQ, y + q = YQ := ⟨_, rfl⟩
        have W3 := Lib.hid (wrap_add _ _ _ hYQ (by omega))
        cases gk with
        | zero =>
          have d0 : decide ((YQ : Int) < (ht : Int)) = false := decide_eq_false (by omega)
          have d1 : decide (YQ < ht) = false := decide_eq_false (by omega)
          have hpw : Hid (q = HT) := Lib.hid (by have := HX.out; unfold RR.ext at this; omega)
          have w3 := wrap_to W3.out
          clear hYQ
          go_wp2
          go_quiet (fail)
          clear w3
          go_wp2
          go_meet
          exact Lib.hid (by rw [← hpw.out]; exact HPW.out.drewN _)
        | succ m =>
          have d0 : decide ((YQ : Int) < (ht : Int)) = true := decide_eq_true (by omega)
          have d1 : decide (YQ < ht) = true := decide_eq_true (by omega)
          obtain ⟨QW, hQW⟩ : ∃ QW, YQ * wd = QW := ⟨_, rfl⟩
          have hq0 : QW + x + WD ≤ nv := by have := hidx (x + WD - 1) YQ (by omega) (by omega); rw [hQW] at this; omega
          have FC := Lib.hid (fun n => free_c (wr.drewN n) g wd ht (some a0) (some ⟨tb, 0, none⟩) c nv nv nv vals tk ((HPW.out.grown.block g hgl (by simpa using hgt)).trans HGG.out) (C_grown HC.out (HPW.out.drewN n).grown hna) (own_boolC (HPW.out.drewN n).own) v x YQ WD (QW + x) hq0 hq0 hlen (by rw [wrap_mul _ _ _ hQW (by omega)]; exact wrap_add _ _ _ rfl (by omega)))
          have w3 := wrap_to W3.out
          clear hq0
          have hxx := HX.out
          unfold RR.ext at hxx
          rw [hYQ, hQW] at hxx
          have HXX := Lib.hid hxx; have HXP := Lib.hid (And.intro hYQ hpk)
          clear hxx hYQ hpk hQW
          obtain ⟨b, hb⟩ : ∃ b, freeN vals tk v (QW + x) WD = b := ⟨_, rfl⟩
          have FB := Lib.hid hb
          rw [hb] at FC
          clear hb
          cases b with
          | true =>
            go_wp2
            go_quiet ((go_at_call 53; exact Calls.quiet_of_same (FC.out _)))
            clear w3
            go_wp2
            go_roundg m
            case measure => exact Nat.lt_succ_self _
            case rel =>
              have hxp := HXP.out
              refine ⟨q + 1, by omega, by omega, Lib.hid ?_, Lib.hid ?_⟩
              · have h := HXX.out
                simp only [FB.out, if_true] at h
                rw [show y + (q + 1) = YQ + 1 by omega]; omega
              · rw [wrap_succ q (by omega)]; exact (HPW.out.drewN _).setq _
          | false =>
            go_wp2
            go_quiet ((go_at_call 53; exact Calls.quiet_of_same (FC.out _)))
            clear w3
            go_wp2
            go_meet
            have h := HXX.out
            simp only [FB.out, Bool.false_eq_true, if_false, Nat.add_zero] at h
            exact Lib.hid (by rw [← h]; exact HPW.out.drewN _)
    case rest =>
      have HPD := Lib.hid hcut.out
      clear hcut HPC
      have hhok : 1 ≤ HT ∧ y + HT ≤ ht := by rw [← HHT.out]; exact highP_ok vals tk wd ht x y hy
      have rc2 := (blk_cell HPD.out.rect 2).trans rfl
      have rc3 := (blk_cell HPD.out.rect 3).trans rfl
      go_wp2
      go_loopw [79] (fun i w' => ∃ r : Nat, r ≤ HT ∧ i = .int .i64 (r : Int) ∧ Hid (PW W base tb nv V2.heap.size x y WD HT (setB tk P wd WD r) w')) (fun i _ => HT - (intOf i).toNat)
      case atStart => exact ⟨0, Nat.zero_le _, rfl, HPD⟩
      case round =>
        obtain ⟨r, hr, rfl, HPW⟩ := hrel
        by_cases hlt : r < HT
        · have d0 : decide ((r : Int) < (HT : Int)) = true := decide_eq_true (by omega)
          have d1 : decide (r < HT) = true := decide_eq_true (by omega)
          obtain ⟨c0, c1, c2, c3⟩ := GC.out _ _ _ _ HPW.out
          have r2 := (blk_cell HPW.out.rect 2).trans rfl
          obtain ⟨YR, hYR⟩ : ∃ YR, y + r = YR := ⟨_, rfl⟩
          obtain ⟨ZR, hZR⟩ : ∃ ZR, YR * wd = ZR := ⟨_, rfl⟩
          obtain ⟨AT, hAT⟩ : ∃ AT, ZR + x = AT := ⟨_, rfl⟩
          have hz : ZR + x + WD ≤ nv := by have := hidx (x + WD - 1) YR (by omega) (by omega); rw [hZR] at this; omega
          have hat : Hid (AT = P + r * wd) := Lib.hid (by rw [← hAT, ← hZR, ← hYR, Nat.add_mul, hYW]; omega)
          have HAT := Lib.hid (show AT + WD ≤ nv by omega)
          have W4 := Lib.hid (wrap_add _ _ _ hYR (by omega))
          have W5 := Lib.hid (wrap_mul _ _ _ hZR (by omega))
          have W6 := Lib.hid (wrap_add _ _ _ hAT (by omega))
          have HRH := Lib.hid (And.intro hr hlt)
          have W7 := Lib.hid (wrap_succ r (by omega))
          clear hYR hZR hAT hz hr hlt
          have w4 := W4.out; have w5 := W5.out; have w6 := W6.out
          go_wp2
          clear w4 w5 w6
          go_loopw [94] (fun j w' => ∃ i : Nat, i ≤ WD ∧ j = .int .i64 (i : Int) ∧ Hid (PW W base tb nv V2.heap.size x y WD HT (setN (setB tk P wd WD r) AT i) w')) (fun j _ => WD - (intOf j).toNat)
          case atStart => exact ⟨0, Nat.zero_le _, rfl, HPW⟩
          case round =>
            obtain ⟨i, hi, rfl, HPI⟩ := hrel
            by_cases hli : i < WD
            · have d2 : decide ((i : Int) < (WD : Int)) = true := decide_eq_true (by omega)
              have d3 : decide (i < WD) = true := decide_eq_true (by omega)
              obtain ⟨g0, g1, g2, g3⟩ := GC.out _ _ _ _ HPI.out
              obtain ⟨J, hJ⟩ : ∃ J, AT + i = J := ⟨_, rfl⟩
              have hJn : J < nv := by have := HAT.out; omega
              obtain ⟨⟨u, hu⟩, hf⟩ := HPI.out.cell J hJn
              have q0 : (0 : Int) ≤ (J : Int) := by omega
              have q1 : (J : Int) < (nv : Int) := by omega
              have W8 := Lib.hid (wrap_add _ _ _ hJ (by have := HAT.out; omega))
              have W9 := Lib.hid (wrap_succ i (by omega))
              have HJ := Lib.hid hJ; have HLI := Lib.hid hli
              clear hJ hli hi
              have w8 := W8.out; have w6 := W6.out
              go_wp2
              clear w8 w6
              go_roundw
              case rel =>
                have := HLI.out
                refine ⟨i + 1, by omega, by rw [W9.out], Lib.hid ?_⟩
                show PW W base tb nv V2.heap.size x y WD HT ((setN (setB tk P wd WD r) AT i).set (AT + i) true) _
                rw [HJ.out]
                exact HPI.out.stored J
              case measure => have := HLI.out; rw [W9.out]; simp [intOf]; omega
            · have d2 : decide ((i : Int) < (WD : Int)) = false := decide_eq_false (by omega)
              have d3 : decide (i < WD) = false := decide_eq_false (by omega)
              have hiw : Hid (i = WD) := Lib.hid (by omega)
              clear hli
              go_wp2
              go_roundw
              case rel =>
                have := HRH.out
                refine ⟨r + 1, by omega, by rw [W7.out], Lib.hid ?_⟩
                show PW W base tb nv V2.heap.size x y WD HT (setN (setB tk P wd WD r) (P + r * wd) WD) _
                rw [← hat.out, ← hiw.out]
                have h := HPI.out
                rw [hiw.out] at h ⊢
                exact h
              case measure => have := HRH.out; rw [W7.out]; simp [intOf]; omega
        · have d0 : decide ((r : Int) < (HT : Int)) = false := decide_eq_false (by omega)
          have d1 : decide (r < HT) = false := decide_eq_false (by omega)
          have hrh : Hid (r = HT) := Lib.hid (by omega)
          have e0 := (blk_cell HPW.out.rect 0).trans rfl
          have e1 := (blk_cell HPW.out.rect 1).trans rfl
          have e2 := (blk_cell HPW.out.rect 2).trans rfl
          have e3 := (blk_cell HPW.out.rect 3).trans rfl
          have s0 := (blk_cell HPW.out.res 0).trans rfl
          have s1 := (blk_cell HPW.out.res 1).trans rfl
          have s2 := (blk_cell HPW.out.res 2).trans rfl
          have s3 := (blk_cell HPW.out.res 3).trans rfl
          have s4 := (blk_cell HPW.out.res 4).trans rfl
          have t0 := blk_frozen HPW.out.res 0
          have t1 := blk_frozen HPW.out.res 1
          have t2 := blk_frozen HPW.out.res 2
          have t3 := blk_frozen HPW.out.res 3
          have t4 := blk_frozen HPW.out.res 4
          have hne : Hid (V2.heap.size ≠ W.heap.size) := Lib.hid (by have := HS2.out; omega)
          clear hlt
          go_wp2
          refine bodyPost_ret (results_cell_row rfl _ _ W.heap.size 31 #[.int .i64 v, .int .i64 (x : Int), .int .i64 (y : Int), .int .i64 (WD : Int), .int .i64 (HT : Int)] (0, 0) _ rfl (by exact HPW.out.fin v) Try.underlying31 rfl (by kernel_rfl)) rfl ?_
          have hf := HPW.out.fin2 (.int .i64 v) (.int .i64 (x : Int)) (.int .i64 (y : Int)) (.int .i64 (WD : Int)) (.int .i64 (HT : Int))
          rw [hrh.out] at hf
          refine ⟨?_, ?_, hf.1⟩
          · rw [hYW, hPP, hv, HWD.out, HHT.out]
          · rw [hYW, hPP, HWD.out, HHT.out]; exact hf.2

end Go.Proofs.Ytkmfhfejogjnfaa.X
