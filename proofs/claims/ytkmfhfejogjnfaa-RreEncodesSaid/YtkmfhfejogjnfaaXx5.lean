/- What each Go function that these laws use answers: as a Lean function, with the proof that the machine's call comes to it. Written by a program of this session (xprint.py). -/
import Derived.Test.YtkmfhfejogjnfaaXx0
import Derived.Test.YtkmfhfejogjnfaaXx2
import Derived.Test.YtkmfhfejogjnfaaXx4
namespace Go.Proofs.Ytkmfhfejogjnfaa.X
open Go.RowKit Go.Proofs.YtkmfhfejogjnfaaW.PrintWords Go.Proofs.YtkmfhfejogjnfaaW.PrintLast Go.Proofs.YtkmfhfejogjnfaaW.PrintMore
attribute [local go_sem] max2_int min2_int max_two min_two max_three min_three max_four min_four   -- for this text's walks alone
set_option linter.unusedVariables false
set_option linter.unusedSimpArgs false

/-! ### rre_Pieces: function 10 -/
def cvP (x : S31) : List Value := [.int .i64 x.f0, .int .i64 x.f1.f0, .int .i64 x.f1.f1, .int .i64 x.f1.f2, .int .i64 x.f1.f3]
def pcS (p : RR.Pc) : S31 := ⟨p.v, ⟨(p.x : Int), (p.y : Int), (p.w : Int), (p.h : Int)⟩⟩
theorem reps_flatP {α : Type} {Rr : α → List Value → Prop} {cv : α → List Value} {sz : Nat} (hs : ∀ x, (cv x).length = sz) (hR : ∀ x, Rr x (cv x)) : ∀ l : List α, Reps Rr sz l (l.flatMap cv)
  | [] => Reps.none _ _
  | x :: l => Reps.front (hR x) (hs x) (reps_flatP hs hR l) rfl
theorem R_of_piece {w : World} {base : Nat} {v : Value} {l : List S31} (h : w.ownsRow base 31 5 v l.length (l.flatMap cvP)) : Kd.R k31 31 w base (fun _ => True) v l :=
  ⟨fun _ _ => trivial, _, h, reps_flatP (cv := cvP) (sz := 5) (Rr := (k31).M w base (fun k => True ∧ some k ≠ v.ownBlock)) (fun _ => rfl) (fun x => k31_mkM w base _ x) l⟩
def sideB (n : Int) : Bool := decide (0 ≤ n) && decide (n ≤ 4096)
theorem side_c (a : Int) (w : World) : Calls Try.prog 26 #[.int .i64 a] w fun e w' => e = .returned (.bool (sideB a)) ∧ Drawn0 w w' :=
  rre_side.calls a (sideB a) w (by unfold rre_side.f sideB; by_cases h : 0 ≤ a <;> simp [h])
def rre_Pieces.f (a0 a1 : Int) (l2 : List Int) (a3 : Int) : Option (List S31) :=
  if l2.length ≤ 1000000 then (if (sideB a0 && sideB a1 && decide ((l2.length : Int) = a0 * a1)) = true then some ((runP l2 a0.toNat a1.toNat a3 l2.length).2.map pcS) else some []) else none
theorem stepIn_append_own {F : Fence} {m : Nat} {P : Program} {ops : Array Oper} {o : Oper} {a : Act} {K : Act → World → Prop} {Q : Exit → Act → World → Prop} {w : World} {E : Prop} (hF : ∀ f, F.fn f) (hgd : o.guard = none) (s x : Operand) (t : TypeId) (ho : o.op = .call { callee := .builtin .append, args := #[s, x], argTypes := #[t, t] })
    (base : Nat) (e : TypeId) (i : TypeInfo) (z : Value) (size bytes : Nat) (ht : P.underlying t = some (.slice e)) (hi : P.info? e = some i) (hz : i.zero = some z) (hsize : i.size = size) (hby : i.bytes = bytes) (hzs : z.cells.size = size) (hsz : 0 < size)
    (v : Value) (n : Nat) (xs : List Value) (hs : a.eval s = v) (hown : w.ownsRow base e size v n xs) (ad : Addr) (mm c : Nat) (news : List Value) (hx : a.eval x = .slice (some ad) mm c) (hl : news.length = mm * size) (hnews : ∀ j u, news[j]? = some u → w.cell? (ad.add j) = some u) (h1 : ∀ u ∈ news, u.oneCell' = true)
    (h63 : n + mm ≤ maxLen) (hbytes : (n + mm) * bytes ≤ 140737488355328) (hbase : base ≤ w.heap.size)
    (h : ∀ v' w', w'.ownsRow base e size v' (n + mm) (xs ++ news) → w.grownBy w' v.ownBlock → K (a.put o.dst v') w') :
    if Region.wanted o (yielded ops a.tmps) = true then Oper.wpIn F m P o a w K Q else E := by
  have hw : Region.wanted o (yielded ops a.tmps) = true := by simp [Region.wanted, hgd]
  rw [if_pos hw]
  obtain ⟨v', w', hr, r1, r2, _⟩ := run_append_own (P := P) w base t o.type e i z size bytes ht hi hz hsize hby hzs hsz v n xs hown ad mm c news hl hnews h1 h63 hbytes hbase
  unfold Oper.wpIn
  refine ⟨fun _ _ => hF _, ?_⟩
  rw [Oper.semAt_eq _ _ _ (fun c e => by rw [ho] at e; cases e)]
  unfold execOp
  simp only [ho, resolve, invoke, builtin, Sem.run_bind, Sem.run_pure, Result.andThen_ok, List.map_toArray, List.map_cons, List.map_nil, hs, hx, hr]
  exact h v' w' r1 r2
theorem only_nP {K : Act → World → Prop} {a : Act} {w : World} (h : K a w) : Go.Proofs.Ytkmfhfejogjnfaa.RX.onlyN K .normal a w := h
theorem alloc_news (W : World) (l : List Value) (T : Nat) : ∀ (j : Nat) (u : Value), l[j]? = some u → (W.alloc (.cells l.toArray T)).cell? ((⟨W.heap.size, 0, none⟩ : Addr).add j) = some u := fun j u h => by
  rw [Addr.add_lit, Nat.zero_add]
  exact (blk_cell (heap_alloc_new W (.cells l.toArray T)) j).trans (by simpa using h)
theorem runP_few (vals : List Int) (w h : Nat) (g : Int) : ∀ n, (runP vals w h g n).2.length ≤ n
  | 0 => by simp [runP]
  | n + 1 => by
    have := runP_few vals w h g n
    rw [runP_succ]
    unfold stepP
    split
    · simp; omega
    · omega
/-- The worlds of the loop. -/
structure PI (w : World) (wd ht n c : Nat) (A : Option Addr) (vals : List Int) (gr : Int) (g tb : Nat) (k : Nat) (v : Value) (wk : World) : Prop where
  below : Below w.heap.size w wk
  hg : w.heap.size ≤ g
  htb : w.heap.size ≤ tb
  grid : wk.heap[g]? = some (.cells #[.int .i64 (wd : Int), .int .i64 (ht : Int), .slice A n c, .slice (some ⟨tb, 0, none⟩) n n] 58 (0, 0))
  tk : wk.ownsRow w.heap.size 4 1 (.slice (some ⟨tb, 0, none⟩) n n) n ((runP vals wd ht gr k).1.map Value.bool)
  row : wk.ownsRow w.heap.size 31 5 v ((runP vals wd ht gr k).2.map pcS).length (((runP vals wd ht gr k).2.map pcS).flatMap cvP)
section
variable {w wk : World} {wd ht n c : Nat} {A : Option Addr} {vals : List Int} {gr : Int} {g tb k : Nat} {v : Value}
theorem PI.drewN (h : PI w wd ht n c A vals gr g tb k v wk) (m : Nat) : PI w wd ht n c A vals gr g tb k v (wk.drewN m) :=
  ⟨h.below.trans (Below.mono (pw_below_drewN (Below.refl _ _) m) h.below.size), h.hg, h.htb, h.grid, h.tk, h.row⟩
theorem own_ne {W : World} {B e sz m b : Nat} {u : Value} {xs : List Value} {cs : Array Value} {T : Nat} {fr : Nat × Nat} (h : W.ownsRow B e sz u m xs) (hb : W.heap[b]? = some (.cells cs T fr)) (hT : T ≠ e) : u.ownBlock ≠ some b := fun e1 => by
  obtain ⟨c, fz, h1⟩ := Lib.ownsRow_kind h b e1
  rw [hb] at h1
  injection h1 with h1
  injection h1 with _ h2
  exact hT h2
theorem own_from {W : World} {B e sz m : Nat} {u : Value} {xs : List Value} (h : W.ownsRow B e sz u m xs) (b : Nat) (hb : u.ownBlock = some b) : B ≤ b := by
  rcases h.2 with ⟨rfl, _⟩ | ⟨g', cap, cur, rfl, h1, _⟩
  · cases hb
  · obtain rfl := Option.some.inj hb; exact h1
theorem own_old {W w' : World} {row : Option Nat} (hg : W.grownBy w' row) {b : Nat} (hb : b < W.heap.size) (hr : some b ≠ row) {o : Obj} (h : W.heap[b]? = some o) : w'.heap[b]? = some o := (hg.block b hb hr).trans h
theorem own_lt {W : World} {B e sz m : Nat} {tb c : Nat} {xs : List Value} (h : W.ownsRow B e sz (.slice (some ⟨tb, 0, none⟩) m c) m xs) : tb < W.heap.size := by
  rcases h.2 with ⟨he, _⟩ | ⟨g', cap, cur, he, _, hg, _⟩
  · injection he with e1; cases e1
  · injection he with e1; injection e1 with e1; injection e1 with e1; subst e1; exact (Array.getElem?_eq_some_iff.1 hg).1
theorem own_cell {W : World} {B e sz m : Nat} {tb c : Nat} {xs : List Value} (h : W.ownsRow B e sz (.slice (some ⟨tb, 0, none⟩) m c) m xs) : ∃ cur, W.heap[tb]? = some (.cells cur e (0, 0)) := by
  rcases h.2 with ⟨he, _⟩ | ⟨g', cap, cur, he, _, hg, _⟩
  · injection he with e1; cases e1
  · injection he with e1; injection e1 with e1; injection e1 with e1; subst e1; exact ⟨cur, hg⟩
end
theorem R_nilP (w : World) (B : Nat) : Kd.R k31 31 w B (fun _ => True) (.slice none 0 0) [] := R_of_piece ⟨rfl, .inl ⟨rfl, rfl⟩⟩
set_option maxHeartbeats 8000000 in
set_option maxRecDepth 100000 in
theorem pieces_no (a0 a1 : Int) (A : Option Addr) (c n : Nat) (a3 : Int) (w : World) (h : (sideB a0 && sideB a1 && decide ((n : Int) = a0 * a1)) = false) :
    Calls Try.prog 10 #[.int .i64 a0, .int .i64 a1, .slice A n c, .int .i64 a3] w fun e w' => e = .returned (.slice none 0 0) ∧ Below w.heap.size w w' := by
  have C0 := fun W => side_c a0 W
  have C1 := fun W => side_c a1 W
  have hw : sideB a0 = true → sideB a1 = true → wrap64 (a0 * a1) = a0 * a1 := fun h0 h1 => by
    unfold sideB at h0 h1
    simp at h0 h1
    have h2 : 0 ≤ a0 * a1 := Int.mul_nonneg h0.1 h1.1
    have h3 : a0 * a1 ≤ 4096 * 4096 := Int.mul_le_mul h0.2 h1.2 h1.1 (by decide)
    unfold wrap64; omega
  obtain ⟨b0, e0⟩ : ∃ b, sideB a0 = b := ⟨_, rfl⟩
  obtain ⟨b1, e1⟩ : ∃ b, sideB a1 = b := ⟨_, rfl⟩
  simp only [e0] at C0 h hw; simp only [e1] at C1 h hw
  clear e0 e1
  have HC0 := Lib.hid C0; have HC1 := Lib.hid C1
  clear C0 C1
  cases b0 with
  | false =>
    clear hw h
    go_enter Try.func10, Try.ntmps10
    go_wp2_with fail
    refine (HC0.out _).mono ?_; rintro e w1 ⟨rfl, ⟨⟨m, rfl⟩⟩⟩
    go_wp2
    go_ret
    exact ⟨rfl, pw_below_drewN (Below.refl _ _) _⟩
  | true =>
    cases b1 with
    | false =>
      clear hw h
      go_enter Try.func10, Try.ntmps10
      go_wp2_with fail
      refine (HC0.out _).mono ?_; rintro e w1 ⟨rfl, ⟨⟨m, rfl⟩⟩⟩
      go_wp2_with fail
      refine (HC1.out _).mono ?_; rintro e w1 ⟨rfl, ⟨⟨m2, rfl⟩⟩⟩
      go_wp2
      go_ret
      exact ⟨rfl, pw_below_drewN (Below.refl _ _) _⟩
    | true =>
      have hw := hw rfl rfl
      have hne : (n : Int) ≠ a0 * a1 := by simpa using h
      have d1 : ((n : Int) != a0 * a1) = true := by simpa using hne
      clear h
      obtain ⟨M, hM⟩ : ∃ M, a0 * a1 = M := ⟨_, rfl⟩
      rw [hM] at hw hne d1
      have d2 : wrap64 (a0 * a1) = M := by rw [hM]; exact hw
      clear hw hM
      go_enter Try.func10, Try.ntmps10
      go_wp2_with fail
      refine (HC0.out _).mono ?_; rintro e w1 ⟨rfl, ⟨⟨m, rfl⟩⟩⟩
      go_wp2_with fail
      refine (HC1.out _).mono ?_; rintro e w1 ⟨rfl, ⟨⟨m2, rfl⟩⟩⟩
      go_wp2
      go_ret
      exact ⟨rfl, pw_below_drewN (Below.refl _ _) _⟩
set_option maxHeartbeats 16000000 in
set_option maxRecDepth 100000 in
theorem pieces_yes (wd ht : Nat) (hw9 : wd ≤ 4096) (hh9 : ht ≤ 4096) (A : Option Addr) (c n : Nat) (vals : List Int) (gr : Int) (w : World) (h1 : Kd.C (Kd.int .i64) w A n vals) (hn : n = wd * ht) (hn9 : n ≤ 1000000) :
    Calls Try.prog 10 #[.int .i64 (wd : Int), .int .i64 (ht : Int), .slice A n c, .int .i64 gr] w fun e w' => ∃ v, e = .returned v ∧ Kd.R k31 31 w' w.heap.size (fun _ => True) v ((runP vals wd ht gr n).2.map pcS) ∧ Below w.heap.size w w' := by
  have C0 : ∀ W, _ := fun W => side_c (wd : Int) W
  have C1 : ∀ W, _ := fun W => side_c (ht : Int) W
  rw [show sideB (wd : Int) = true by unfold sideB; simp; omega] at C0
  rw [show sideB (ht : Int) = true by unfold sideB; simp; omega] at C1
  have HC0 := Lib.hid C0; have HC1 := Lib.hid C1
  clear C0 C1
  have hvl : vals.length = n := h1.1
  have d2 : wrap64 ((wd : Int) * (ht : Int)) = (n : Int) := by rw [hn, ← Int.natCast_mul]; exact wrap_nat _ (by omega)
  have HN := Lib.hid hn; have HN9 := Lib.hid hn9; have H1 := Lib.hid h1; have HVL := Lib.hid hvl; have HWH := Lib.hid (And.intro hw9 hh9)
  clear hn h1 hvl
  obtain ⟨i0, hi, hzz⟩ := Option.map_eq_some_iff.1 (show (Try.prog.info? 4).map (fun i => (i.zero, i.size, i.bytes)) = some (some (.bool false), 1, 1) by kernel_rfl)
  simp only [Prod.mk.injEq] at hzz; obtain ⟨hz0, hz1, hz2⟩ := hzz
  have HI := Lib.hid hi; have HI0 := Lib.hid hz0; have HI1 := Lib.hid hz1; have HI2 := Lib.hid hz2
  clear hi hz0 hz1 hz2
  obtain ⟨i1, hi, hzz⟩ := Option.map_eq_some_iff.1 info31
  simp only [Prod.mk.injEq] at hzz; obtain ⟨hz0, hz1, hz2⟩ := hzz
  have HJ := Lib.hid hi; have HJ0 := Lib.hid hz0; have HJ1 := Lib.hid hz1; have HJ2 := Lib.hid hz2
  clear hi hz0 hz1 hz2
  go_enter Try.func10, Try.ntmps10
  go_wp2_with fail
  refine (HC0.out _).mono ?_; rintro e w1 ⟨rfl, ⟨⟨m, rfl⟩⟩⟩
  go_wp2_with fail
  refine (HC1.out _).mono ?_; rintro e w1 ⟨rfl, ⟨⟨m2, rfl⟩⟩⟩
  go_wp2_with (with_reducible refine wpList_make_full _ rfl _ _ 56 rfl w.heap.size 4 i0 (.bool false) 1 Try.underlying56 HI.out HI0.out HI1.out .i64 .i64 n n n rfl rfl rfl rfl ?c1 ?c2 ?c3 ?_)
  case c1 => rw [HI2.out]; omega
  case c2 => unfold maxLen; omega
  case c3 => simp
  intro w1 hown hgr
  have HB1 := Lib.hid ((pw_below_drewN (Below.refl w.heap.size w) _).grown hgr (Nat.le_refl _) (fun _ h => by cases h))
  have HO1 := Lib.hid hown
  clear hown hgr
  go_wp2
  go_loopw [39, 10] (fun q l w' => ∃ k : Nat, k ≤ n ∧ q = .int .i64 (k : Int) ∧ Hid (PI w wd ht n c A vals gr w1.heap.size w.heap.size k l w')) (fun q _ _ => n - (intOf q).toNat)
  case atStart =>
    refine ⟨0, Nat.zero_le _, rfl, Lib.hid ⟨below_alloc HB1.out _, HB1.out.size, Nat.le_refl _, heap_alloc_new _ _, ?_, ⟨rfl, .inl ⟨rfl, rfl⟩⟩⟩⟩
    have h := HO1.out.alloc (.cells #[.int .i64 (wd : Int), .int .i64 (ht : Int), .slice A n c, .slice (some ⟨w.heap.size, 0, none⟩) n n] 58)
    rw [toList_madeCells_one] at h
    rw [show (runP vals wd ht gr 0).1.map Value.bool = List.replicate n (Value.bool false) by simp [runP, HVL.out]]
    exact h
  case round =>
    obtain ⟨k, hk, rfl, HP⟩ := hrel
    by_cases hlt : k < n
    · have d0 : decide ((k : Int) < (n : Int)) = true := decide_eq_true (by omega)
      have d1 : decide (k < n) = true := decide_eq_true hlt
      have p0 : (0 : Int) ≤ (k : Int) := by omega
      have p1 : (k : Int) < (n : Int) := by omega
      obtain ⟨a1, e1, x1⟩ := Kd.at_int (Kd.C_below H1.out HP.out.below) (k : Int) (by omega) (by omega)
      obtain ⟨a2, e2, x2⟩ := Kd.at_bool (own_boolC HP.out.tk) (k : Int) (by omega) (by omega)
      rw [rd_getD, Int.toNat_natCast] at x1
      rw [rdOf_getD, Int.toNat_natCast] at x2
      have hc3 := (blk_cell HP.out.grid 3).trans rfl
      obtain ⟨va, hva⟩ : ∃ va, vals.getD k 0 = va := ⟨_, rfl⟩
      obtain ⟨ba, hba⟩ : ∃ ba, (runP vals wd ht gr k).1.getD k false = ba := ⟨_, rfl⟩
      rw [hva] at x1; rw [hba] at x2
      have HBL := Lib.hid (show a1.block < w.heap.size by
        obtain ⟨a9, e9, x9⟩ := Kd.at_int H1.out (k : Int) (by omega) (by omega)
        obtain rfl := Option.some.inj (e1.symm.trans e9)
        have := World.block_lt_of_cell? w _ x9
        unfold Addr.add at this; split at this <;> exact this)
      subst e1
      obtain rfl := Option.some.inj e2
      rw [Addr.add_lit, Nat.zero_add] at x2
      have HVA := Lib.hid hva; have HBA := Lib.hid hba; have HLT := Lib.hid hlt
      have W1 := Lib.hid (wrap_succ k (by omega))
      clear hva hba e2 hlt hk
      by_cases hv : va = gr
      · have q2 : (va != gr) = false := by simpa using hv
        have q3 : (va == gr) = true := by simpa using hv
        have HS := Lib.hid (show runP vals wd ht gr (k + 1) = runP vals wd ht gr k by rw [runP_succ]; unfold stepP; rw [if_neg (fun h => h.1 (by rw [HVA.out]; exact hv))])
        clear hv
        go_wp2
        go_roundw
        case rel => have := HLT.out; exact ⟨k + 1, by omega, by go_num, Lib.hid (by have h := HP.out; exact ⟨h.below, h.hg, h.htb, h.grid, by rw [HS.out]; exact h.tk, by rw [HS.out]; exact h.row⟩)⟩
        case measure => have := HLT.out; simp [intOf]; omega
      · have q2 : (va != gr) = true := by simpa using hv
        have q3 : (va == gr) = false := by simpa using hv
        cases ba with
        | true =>
          have HS := Lib.hid (show runP vals wd ht gr (k + 1) = runP vals wd ht gr k by rw [runP_succ]; unfold stepP; rw [if_neg (fun h => by have := h.2; rw [HBA.out] at this; cases this)])
          clear hv
          go_wp2
          go_roundw
          case rel => have := HLT.out; exact ⟨k + 1, by omega, by go_num, Lib.hid (by have h := HP.out; exact ⟨h.below, h.hg, h.htb, h.grid, by rw [HS.out]; exact h.tk, by rw [HS.out]; exact h.row⟩)⟩
          case measure => have := HLT.out; simp [intOf]; omega
        | false =>
          have HV := Lib.hid hv
          clear hv
          go_wp2
          have hkw := at_in (show k < wd * ht by have := HN.out; have := HLT.out; omega)
          have hat := at_eq k wd
          obtain ⟨X, hX⟩ : ∃ X, k % wd = X := ⟨_, rfl⟩
          obtain ⟨Y, hY⟩ : ∃ Y, k / wd = Y := ⟨_, rfl⟩
          have hwz : ¬ wd = 0 := by have := hkw.1; omega
          have hre : Int.tmod (k : Int) (wd : Int) = (X : Int) := by rw [← hX, Int.tmod_eq_emod_of_nonneg (by omega)]; rfl
          have hqu : Int.tdiv (k : Int) (wd : Int) = (Y : Int) := by rw [← hY, Int.tdiv_eq_ediv_of_nonneg (by omega)]; rfl
          rw [hX, hY] at hkw hat
          have hqw : IntKind.i64.wrap (Y : Int) = (Y : Int) := wrap_to (wrap_nat _ (by have := hkw.2; omega))
          have hrw : IntKind.i64.wrap (X : Int) = (X : Int) := wrap_to (wrap_nat _ (by have := hkw.1; omega))
          have HS := Lib.hid (show runP vals wd ht gr (k + 1) = (setB (runP vals wd ht gr k).1 (Y * wd + X) wd (wideP vals (runP vals wd ht gr k).1 wd X Y) (highP vals (runP vals wd ht gr k).1 wd ht X Y), (runP vals wd ht gr k).2 ++ [⟨vals.getD (Y * wd + X) 0, X, Y, wideP vals (runP vals wd ht gr k).1 wd X Y, highP vals (runP vals wd ht gr k).1 wd ht X Y⟩]) by rw [runP_succ]; unfold stepP; rw [if_pos ⟨by rw [HVA.out]; exact HV.out, HBA.out⟩, hX, hY])
          have HXY := Lib.hid (And.intro hX hY); have HKW := Lib.hid hkw; have HAT := Lib.hid hat
          have HP2 := Lib.hid (HP.out.drewN 1)
          clear hX hY hkw hat
          refine (wpIn_wide (n := 4)).1 ?_
          refine Go.Proofs.Ytkmfhfejogjnfaa.RX.wpIn_only ?_
          refine HR.region [] (fun _ => True) (by kernel_rfl) ?_
          refine HR.take 0 (v := u10) (by kernel_rfl) (by kernel_rfl) (fun _ => trivial) (by kernel_rfl) rfl (by kernel_rfl) (by kernel_rfl) (by kernel_rfl) (fun _ _ _ h => h) (trivial) rfl (fun w0 hw0 => by go_simp) ?_
          simp only [Act.put, List.setIfInBounds_toArray, List.set_cons_zero, List.set_cons_succ]
          refine HR.take 1 (v := .pointer (some ⟨w1.heap.size, 0, none⟩)) (by kernel_rfl) (by kernel_rfl) (fun _ => trivial) (by kernel_rfl) rfl (by kernel_rfl) (by kernel_rfl) (by kernel_rfl) (fun _ _ _ h => h) (trivial) rfl (fun w0 hw0 => by go_simp) ?_
          simp only [Act.put, List.setIfInBounds_toArray, List.set_cons_zero, List.set_cons_succ]
          refine HR.take 2 (v := .int .i64 (k : Int)) (by kernel_rfl) (by kernel_rfl) (fun _ => trivial) (by kernel_rfl) rfl (by kernel_rfl) (by kernel_rfl) (by kernel_rfl) (fun _ _ _ h => h) (trivial) rfl (fun w0 hw0 => by go_simp) ?_
          simp only [Act.put, List.setIfInBounds_toArray, List.set_cons_zero, List.set_cons_succ]
          refine HR.take 3 (v := .int .i64 (wd : Int)) (by kernel_rfl) (by kernel_rfl) (fun _ => trivial) (by kernel_rfl) rfl (by kernel_rfl) (by kernel_rfl) (by kernel_rfl) (fun _ _ _ h => h) (trivial) rfl (fun w0 hw0 => by go_simp) ?_
          simp only [Act.put, List.setIfInBounds_toArray, List.set_cons_zero, List.set_cons_succ]
          refine HR.take 4 (v := .int .i64 (X : Int)) (by kernel_rfl) (by kernel_rfl) (fun _ => trivial) (by kernel_rfl) rfl (by kernel_rfl) (by kernel_rfl) (by kernel_rfl) (fun _ _ _ h => h) (trivial) rfl (fun w0 hw0 => by go_simp) ?_
          simp only [Act.put, List.setIfInBounds_toArray, List.set_cons_zero, List.set_cons_succ]
          refine HR.take 5 (v := .int .i64 (k : Int)) (by kernel_rfl) (by kernel_rfl) (fun _ => trivial) (by kernel_rfl) rfl (by kernel_rfl) (by kernel_rfl) (by kernel_rfl) (fun _ _ _ h => h) (trivial) rfl (fun w0 hw0 => by go_simp) ?_
          simp only [Act.put, List.setIfInBounds_toArray, List.set_cons_zero, List.set_cons_succ]
          refine HR.take 6 (v := .int .i64 (wd : Int)) (by kernel_rfl) (by kernel_rfl) (fun _ => trivial) (by kernel_rfl) rfl (by kernel_rfl) (by kernel_rfl) (by kernel_rfl) (fun _ _ _ h => h) (trivial) rfl (fun w0 hw0 => by go_simp) ?_
          simp only [Act.put, List.setIfInBounds_toArray, List.set_cons_zero, List.set_cons_succ]
          refine HR.take 7 (v := .int .i64 (Y : Int)) (by kernel_rfl) (by kernel_rfl) (fun _ => trivial) (by kernel_rfl) rfl (by kernel_rfl) (by kernel_rfl) (by kernel_rfl) (fun _ _ _ h => h) (trivial) rfl (fun w0 hw0 => by go_simp) ?_
          simp only [Act.put, List.setIfInBounds_toArray, List.set_cons_zero, List.set_cons_succ]
          clear hwz hre hqu hqw hrw
          refine HR.one 8 (by kernel_rfl) rfl (fun K hK => ?_)
          go_simp
          refine ⟨trivial, (callsIn_wide.2 (piece_c wr.drew w1.heap.size w.heap.size w.heap.size wd ht (some a1) c n vals (runP vals wd ht gr k).1 HP2.out.grid (Kd.C_below H1.out HP2.out.below) (fun a ha => by obtain rfl := Option.some.inj ha; exact Nat.ne_of_lt HBL.out) (Nat.ne_of_gt (own_lt HO1.out)) HP2.out.tk HN.out HN9.out X Y HKW.out.1 HKW.out.2 (by have := HWH.out.1; omega) (by have := HWH.out.2; omega))).mono ?_⟩
          rintro e w2 ⟨rfl, hown2, hgr2⟩
          have hfew := runP_few vals wd ht gr k
          have hlen : ((runP vals wd ht gr k).2.map pcS).length = (runP vals wd ht gr k).2.length := List.length_map _
          have hnt := own_ne HP2.out.row (own_cell HP2.out.tk).choose_spec (by decide)
          have hr2 := HP2.out.row.kept hgr2 (.inr hnt)
          have hg2 := own_old hgr2 (Array.getElem?_eq_some_iff.1 HP2.out.grid).1 (by have := own_lt HO1.out; simp; omega) HP2.out.grid
          have hb2 := HP2.out.below.grown hgr2 HP2.out.below.size (fun _ h => by obtain rfl := Option.some.inj h; exact Nat.le_refl _)
          have HO2 := Lib.hid hown2; have HR2 := Lib.hid hr2; have HG2 := Lib.hid hg2; have HB2 := Lib.hid hb2; have HFEW := Lib.hid hfew; have HLEN := Lib.hid hlen
          clear hown2 hr2 hg2 hb2 hgr2 hnt hfew hlen
          refine hK _ _ ⟨.inr trivial, ?_⟩; clear hK K
          refine HR.one 9 (by kernel_rfl) rfl (fun K hK => ?_)
          go_simp
          refine hK _ _ ⟨.inr trivial, ?_⟩; clear hK K
          refine HR.one 10 (by kernel_rfl) rfl (fun K hK => ?_)
          refine stepIn_append_own (fun _ => trivial) rfl (.tmp 57) (.tmp 66) 24 rfl w.heap.size 31 i1 _ 5 40 Try.underlying24 HJ.out HJ0.out HJ1.out HJ2.out rfl (by decide) u10 _ _ rfl (HR2.out.alloc _) ⟨w2.heap.size, 0, none⟩ 1 1 _ rfl rfl (alloc_news _ _ _) (by simp [Value.oneCell']) (by unfold maxLen; have := HFEW.out; have := HLEN.out; have := HLT.out; omega) (by have := HFEW.out; have := HLEN.out; have := HLT.out; omega) (by have := HB2.out.size; simp; omega) ?_
          intro v3 w3 hown3 hgr3
          have hu := own_ne HR2.out HG2.out (by decide)
          have hv := own_ne HR2.out (own_cell HO2.out).choose_spec (by decide)
          have hg3 := own_old hgr3 (Nat.lt_of_lt_of_le (Array.getElem?_eq_some_iff.1 HG2.out).1 (by simp)) (fun h => hu h.symm) ((Below.heap_alloc _ _ _ (Array.getElem?_eq_some_iff.1 HG2.out).1).trans HG2.out)
          have ho3 := (HO2.out.alloc _).kept hgr3 (.inr (fun h => hv h.symm))
          have hb3 := (below_alloc HB2.out _).grown hgr3 (Nat.le_trans HB2.out.size (by simp)) (fun b h => own_from HR2.out b h)
          have HG3 := Lib.hid hg3; have HO3 := Lib.hid ho3; have HB3 := Lib.hid hb3; have HW3 := Lib.hid hown3
          clear hu hv hg3 ho3 hb3 hown3 hgr3
          refine hK _ _ ⟨.inr trivial, ?_⟩; clear hK K
          refine HR.one 11 (by kernel_rfl) rfl (fun K hK => ?_)
          go_simp
          refine hK _ _ ⟨.inr trivial, ?_⟩; clear hK K
          refine HR.done (by kernel_rfl) (only_nP ?_) _
          go_wp2
          go_roundw
          case rel => have := HLT.out; exact ⟨k + 1, by omega, by go_num, Lib.hid ⟨HB3.out, HP.out.hg, HP.out.htb, HG3.out, by rw [HS.out]; exact HO3.out, by rw [HS.out]; simp only [List.map_append, List.length_append, List.flatMap_append]; exact HW3.out⟩⟩
          case measure => have := HLT.out; simp [intOf]; omega
    · have hkn : k = n := by omega
      subst hkn
      have d0 : decide ((k : Int) < (k : Int)) = false := decide_eq_false (by omega)
      have d1 : decide (k < k) = false := decide_eq_false (by omega)
      clear hlt
      go_wp2
      go_ret
      exact ⟨_, rfl, R_of_piece HP.out.row, HP.out.below⟩
theorem rre_Pieces.calls (a0 : Int) (a1 : Int) (A2 : Option Addr) (c2 : Nat) (l2 : List Int) (a3 : Int) (r : List (S31)) (w : World) (hr2 : Kd.C (Kd.int .i64) w A2 l2.length l2) (hc2 : l2.length ≤ c2) (h : rre_Pieces.f a0 a1 l2 a3 = some r) :
    Calls Try.prog 10 #[.int .i64 a0, .int .i64 a1, .slice A2 l2.length c2, .int .i64 a3] w fun e w' => ∃ v0_ : Value, e = .returned (v0_) ∧ Kd.R k31 31 w' w.heap.size (fun _ => True) v0_ r ∧ Below w.heap.size w w' := by
  unfold rre_Pieces.f at h
  split at h
  · rename_i hl
    split at h
    · rename_i hc
      obtain rfl := Option.some.inj h
      simp only [Bool.and_eq_true, decide_eq_true_eq] at hc
      obtain ⟨⟨h0, h1⟩, h2⟩ := hc
      unfold sideB at h0 h1
      simp only [Bool.and_eq_true, decide_eq_true_eq] at h0 h1
      have e0 : ((a0.toNat : Nat) : Int) = a0 := Int.toNat_of_nonneg h0.1
      have e1 : ((a1.toNat : Nat) : Int) = a1 := Int.toNat_of_nonneg h1.1
      have h3 := pieces_yes a0.toNat a1.toNat (by omega) (by omega) A2 c2 l2.length l2 a3 w hr2 (by have : ((a0.toNat * a1.toNat : Nat) : Int) = a0 * a1 := by rw [Int.natCast_mul, e0, e1]
                                                                                                    omega) hl
      rw [e0, e1] at h3
      exact h3
    · rename_i hc
      obtain rfl := Option.some.inj h
      exact (pieces_no a0 a1 A2 c2 l2.length a3 w (by simpa using hc)).mono fun e w' h => ⟨_, h.1, R_nilP _ _, h.2⟩
  · cases h

end Go.Proofs.Ytkmfhfejogjnfaa.X
