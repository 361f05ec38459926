/- What each Go function that these laws use answers: as a Lean function, with the proof that the machine's call comes to it. Written by a program of this session (xprint.py). -/
import Derived.Test.YtkobiblgbpnlaaaXx0
namespace Go.Proofs.Ytkobiblgbpnlaaa.X
open Go.RowKit Go.Proofs.YtkobiblgbpnlaaaW.PrintWords Go.Proofs.YtkobiblgbpnlaaaW.PrintLast Go.Proofs.YtkobiblgbpnlaaaW.PrintMore
attribute [local go_sem] max2_int min2_int max_two min_two max_three min_three max_four min_four   -- for this text's walks alone
set_option linter.unusedVariables false
set_option linter.unusedSimpArgs false

/-! ### region_steps: function 41 -/
attribute [local go_sem] Oper.semAt_some
open Go.Shelf Go.Proofs.Ytkobiblgbpnlaaa.RX
/-- What a round keeps: all that lay below n₀, but the blocks of E (and what is new). -/
def KeepE (n₀ : Nat) (E : Nat → Prop) (W W' : World) : Prop := W.heap.size ≤ W'.heap.size ∧ ∀ k, k < n₀ → ¬ E k → W'.heap[k]? = W.heap[k]?
theorem keepE_t {n₀ : Nat} {E : Nat → Prop} {A B C : World} (h : KeepE n₀ E A B) (k : KeepE n₀ E B C) : KeepE n₀ E A C := ⟨Nat.le_trans h.1 k.1, fun q hq hn => (k.2 q hq hn).trans (h.2 q hq hn)⟩
theorem keepE_refl (n₀ : Nat) (E : Nat → Prop) (W : World) : KeepE n₀ E W W := ⟨Nat.le_refl _, fun _ _ _ => rfl⟩
theorem keepE_b {n₀ : Nat} {E : Nat → Prop} {w : World} (hn : n₀ ≤ w.heap.size) (W : World) (l : Nat) (o o' : Obj) (hl : w.heap.size ≤ l) (h : W.heap[l]? = some o) (_ : o.isCells = false) (_ : o.isWalk = false) : KeepE n₀ E W (W.putObj l o') := by
  refine ⟨(grownBy_putObj' W l o').size, fun k hk _ => (grownBy_putObj' W l o').block k (by have := (Array.getElem?_eq_some_iff.1 h).1; omega) (fun e => by cases e; omega)⟩
theorem keepE_below {n₀ : Nat} {E : Nat → Prop} {W W' : World} (hn : n₀ ≤ W.heap.size) (h : Below W.heap.size W W') : KeepE n₀ E W W' := ⟨h.size, fun k hk _ => h.block k (by omega)⟩
set_option maxRecDepth 100000 in
set_option maxHeartbeats 4000000 in
theorem steps_it (n : Nat) (hn : 2 ≤ n) (l Bp n₀ : Nat) (E : Nat → Prop) (A : Option Addr) (c : Nat) (xs : List Int) (hlen : xs.length ≤ 17592186044416) (hb : Bp < n₀ ∧ ¬ E Bp)
    (J Jx : List {k : Nat // k + 1 < xs.length} → World → Prop) (B0 : Nat) (hJ : AbidesFrom B0 J) (hJx : AbidesFrom B0 Jx)
    (hY : ∀ pre k W, J pre W → pre.length < xs.length - 1 → YieldAt Fence.wide (n - 1) Try.prog l #[.int .i64 (xs.getD k.1 0), .int .i64 (xs.getD (k.1 + 1) 0)] W fun e W' =>
      (e = .returned (.bool true) ∧ J (pre ++ [k]) W' ∧ KeepE n₀ E W W') ∨ (e = .returned (.bool false) ∧ Jx (pre ++ [k]) W'))
    (W : World) (hn0 : n₀ ≤ W.heap.size) (hBp : W.heap[Bp]? = some (.cells #[.slice A xs.length c] 40 (0, 0)))
    (hx : ∀ W', KeepE n₀ E W W' → ∀ i, i < xs.length → ∃ ad, A = some ad ∧ W'.cell? (ad.add i) = some (.int .i64 (xs.getD i 0))) (h0 : J [] W) :
    CallsIn Fence.wide n Try.prog 52 #[.func (.yield l) #[] #[], .pointer (some ⟨Bp, 0, none⟩)] W fun e W' => (∃ v, e = .returned v) ∧
      ((∃ ys, ys.map (·.1) = List.range (xs.length - 1) ∧ J ys W') ∨ (∃ pre, True ∧ Jx pre W')) := by
  refine callsIn_of_wp Try.func52 rfl trivial ?_ rfl
  simp only [Try.ntmps52, List.size_toArray, List.length_cons, List.length_nil, Nat.reduceAdd, Nat.reduceSub, Array.replicate_succ, Array.replicate_zero, List.push_toArray, List.append_toArray, List.nil_append, List.cons_append]
  have HBp := Lib.hid hBp
  have HY := Lib.hid hY
  have HX := Lib.hid hx
  clear hBp hY hx
  gi_wp2
  gi_loopw [3] (fun i wr => ∃ (k : Nat) (ys : List {k : Nat // k + 1 < xs.length}), k ≤ xs.length - 1 ∧ i = .int .i64 ((k : Int) + 1) ∧ Hid (ys.map (·.1) = List.range k) ∧ J ys wr ∧ Hid (KeepE n₀ E W wr))
    (fun i _ => xs.length + 1 - (intOf i).toNat)
  case atStart => exact ⟨0, [], Nat.zero_le _, rfl, Lib.hid rfl, h0, Lib.hid (keepE_refl _ _ _)⟩
  case round =>
    obtain ⟨k, ys, hk, rfl, HYS, hJs, HK⟩ := hrel
    have q0 : wr.cell? ⟨Bp, 0, none⟩ = some (.slice A xs.length c) := by rw [World.cell?, HK.out.2 _ hb.1 hb.2, HBp.out]; rfl
    by_cases hlt : k + 1 < xs.length
    · have c0 : decide ((k : Int) + 1 < (xs.length : Int)) = true := decide_eq_true (by omega)
      obtain ⟨ad, rfl, hx0⟩ := HX.out wr HK.out k (by omega)
      obtain ⟨ad', e', hx1⟩ := HX.out wr HK.out (k + 1) hlt
      obtain rfl := Option.some.inj e'
      clear e'
      have p0 : (0 : Int) ≤ (k : Int) := by omega
      have p1 : (k : Int) < (xs.length : Int) := by omega
      have p2 : (0 : Int) ≤ (k : Int) + 1 := by omega
      have p3 : (k : Int) + 1 < (xs.length : Int) := by omega
      have p4 : ((k : Int) + 1).toNat = k + 1 := by omega
      have w1 : IntKind.i64.wrap (k : Int) = k := by rw [IntKind.wrap_i64]; omega
      have hyq : ∀ q : Nat, ∃ p : FuncId × Array Value × Code × Code, (Instr.yield l #[.int .i64 (xs.getD k 0), .int .i64 (xs.getD (k + 1) 0)]).run Try.prog (wr.drewN q) = .ok (.round l p.1 p.2.1 p.2.2.1 p.2.2.2) (wr.drewN q) ∧
          RoundIn Fence.wide (n - 1) Try.prog l p.1 p.2.1 p.2.2.1 p.2.2.2 (wr.drewN q) fun e W' => ∃ b, e = .returned (.bool b) ∧ (b = true → J (ys ++ [⟨k, hlt⟩]) W' ∧ KeepE n₀ E (wr.drewN q) W') ∧ (b = false → Jx (ys ++ [⟨k, hlt⟩]) W') := by
        intro q
        obtain ⟨fn, tmps, assign, body, hy2, hR⟩ := HY.out ys ⟨k, hlt⟩ (wr.drewN q) (hJ _ _ _ none hJs (grownBy_drewN_ wr q) (fun r h => by cases h)) (by have := congrArg List.length HYS.out; simp at this; omega)
        refine ⟨(fn, tmps, assign, body), hy2, hR.mono ?_⟩
        rintro e W' (⟨rfl, h1, h2⟩ | ⟨rfl, h1⟩)
        · exact ⟨true, rfl, fun _ => ⟨h1, h2⟩, fun h => by cases h⟩
        · exact ⟨false, rfl, (fun h => by cases h), fun _ => h1⟩
      obtain ⟨fq, hfq⟩ := Classical.axiomOfChoice hyq
      have hy2 := fun q => (hfq q).1
      have HR := Lib.hid (fun q => (hfq q).2)
      clear hyq hfq
      obtain ⟨u, hu⟩ : ∃ u, xs.getD k 0 = u := ⟨_, rfl⟩
      obtain ⟨v, hv⟩ : ∃ v, xs.getD (k + 1) 0 = v := ⟨_, rfl⟩
      rw [hu] at hx0
      rw [hv] at hx1
      rw [hu, hv] at hy2
      clear hu hv
      have hx2 : wr.cell? ⟨ad.block, ad.off + (k + 1), none⟩ = some (.int .i64 v) := by
        have e : ad.add (k + 1) = ⟨ad.block, ad.off + (k + 1), none⟩ := by simp [Addr.add]
        rw [← e]; exact hx1
      have hy3 : (Instr.yield l #[.int .i64 u, .int .i64 v]).run Try.prog wr.drew = .ok (.round l (fq 1).1 (fq 1).2.1 (fq 1).2.2.1 (fq 1).2.2.2) wr.drew := hy2 1
      clear hy2
      gi_wp2
      gi_region_with (refine ⟨fun _ => by omega, (HR.out 1).mono ?_⟩; rintro e W3 ⟨b, rfl, h3, h4⟩)
      all_goals
        have H3 := Lib.hid h3
        have H4 := Lib.hid h4
        clear h3 h4 hy3 q0 hx0 hx1 hx2 w1
        cases b
        · gi_wp2
          refine bodyPost_ret (results_none rfl _ _ _) rfl ?_
          exact ⟨⟨_, rfl⟩, .inr ⟨_, H4.out (by trivial)⟩⟩
        · gi_wp2
          go_roundw
          case rel => exact ⟨k + 1, ys ++ [⟨k, hlt⟩], by omega, by push_cast; rfl, Lib.hid (by rw [List.map_append, HYS.out, List.range_succ]; rfl), (H3.out rfl).1, Lib.hid (keepE_t (show KeepE n₀ E W (wr.drewN _) from HK.out) (H3.out rfl).2)⟩
          case measure => simp [intOf]; omega
    · have c0 : decide ((k : Int) + 1 < (xs.length : Int)) = false := decide_eq_false (by omega)
      gi_wp2
      go_end0
      exact ⟨⟨_, rfl⟩, .inl ⟨ys, by have h1 := HYS.out; rw [show k = xs.length - 1 by omega] at h1; exact h1, hJs⟩⟩
set_option maxHeartbeats 1000000 in
theorem steps_maker (A : Option Addr) (len c : Nat) (w : World) :
    Calls Try.prog 41 #[.slice A len c] w fun e w' => e = .returned (.func (.func 52) #[] #[.pointer (some ⟨w.heap.size, 0, none⟩)]) ∧ w' = w.alloc (.cells #[.slice A len c] 40) := by
  go_enter Try.func41, Try.ntmps41
  go_wp2
  go_ret
  exact ⟨rfl, rfl⟩
theorem steps_stopsE (n : Nat) (hn : 2 ≤ n) (Bp n₀ : Nat) (E : Nat → Prop) (A : Option Addr) (c : Nat) (xs : List Int) (hlen : xs.length ≤ 17592186044416) (hb : Bp < n₀ ∧ ¬ E Bp)
    (W : World) (hn0 : n₀ ≤ W.heap.size) (hBp : W.heap[Bp]? = some (.cells #[.slice A xs.length c] 40 (0, 0)))
    (hx : ∀ W', KeepE n₀ E W W' → ∀ i, i < xs.length → ∃ ad, A = some ad ∧ W'.cell? (ad.add i) = some (.int .i64 (xs.getD i 0))) :
    SeqStopsK Fence.wide n Try.prog 52 #[.pointer (some ⟨Bp, 0, none⟩)] (fun k : {k : Nat // k + 1 < xs.length} => #[.int .i64 (xs.getD k.1 0), .int .i64 (xs.getD (k.1 + 1) 0)]) (KeepE n₀ E)
      (fun ys => ys.map (·.1) = List.range (xs.length - 1)) (fun _ => True) (xs.length - 1) W := fun l J Jx W1 hW hJ hJx hY h0 => by
  refine steps_it n hn l Bp n₀ E A c xs hlen hb J Jx W1.heap.size hJ hJx hY W1 (Nat.le_trans hn0 hW.size) ?_ ?_ h0
  · exact (hW.block _ (by omega)).trans hBp
  · exact fun W' hk => hx W' ⟨Nat.le_trans hW.size hk.1, fun q hq hne => (hk.2 q hq hne).trans (hW.block q (by omega))⟩
theorem steps_stops (n : Nat) (hn : 2 ≤ n) (Bp n₀ ex : Nat) (A : Option Addr) (c : Nat) (xs : List Int) (hlen : xs.length ≤ 17592186044416) (hb : Bp < n₀ ∧ Bp ≠ ex)
    (W : World) (hn0 : n₀ ≤ W.heap.size) (hBp : W.heap[Bp]? = some (.cells #[.slice A xs.length c] 40 (0, 0)))
    (hx : ∀ W', KeepRow n₀ ex W W' → ∀ i, i < xs.length → ∃ ad, A = some ad ∧ W'.cell? (ad.add i) = some (.int .i64 (xs.getD i 0))) :
    SeqStopsK Fence.wide n Try.prog 52 #[.pointer (some ⟨Bp, 0, none⟩)] (fun k : {k : Nat // k + 1 < xs.length} => #[.int .i64 (xs.getD k.1 0), .int .i64 (xs.getD (k.1 + 1) 0)]) (KeepRow n₀ ex)
      (fun ys => ys.map (·.1) = List.range (xs.length - 1)) (fun _ => True) (xs.length - 1) W := steps_stopsE n hn Bp n₀ (fun k => k = ex) A c xs hlen hb W hn0 hBp hx

/-! ### cmp_isNaN_int: function 77 -/
def cmp_isNaN_int.f (a0 : Int) : Option (Bool) := some (a0 != a0)
set_option maxHeartbeats 8000000 in
set_option maxRecDepth 100000 in
theorem cmp_isNaN_int.calls (a0 : Int) (r : Bool) (w : World) (h : cmp_isNaN_int.f a0 = some r) :
    Calls Try.prog 77 #[.int .i64 a0] w fun e w' => e = .returned (.bool r) ∧ Drawn0 w w' := by
  have H : (some (a0 != a0)) = some r := h
  clear h
  obtain rfl := Option.some.inj H
  go_enter Try.func77, Try.ntmps77
  go_wp2
  go_ret
  exact ⟨by first | rfl | (simp; done) | (simp [*]; done), by repeat (first | exact Drawn0.refl _ | apply Drawn0.step)⟩

/-! ### cmp_Less_int: function 67 -/
def cmp_Less_int.f (a0 : Int) (a1 : Int) : Option (Bool) := (cmp_isNaN_int.f a0).bind fun t116 => (if t116 = true then ((cmp_isNaN_int.f a1).bind fun t117 => (if t117 = true then (some (decide (a0 < a1))) else (some true))) else (some (decide (a0 < a1))))
set_option maxHeartbeats 8000000 in
set_option maxRecDepth 100000 in
theorem cmp_Less_int.calls (a0 : Int) (a1 : Int) (r : Bool) (w : World) (h : cmp_Less_int.f a0 a1 = some r) :
    Calls Try.prog 67 #[.int .i64 a0, .int .i64 a1] w fun e w' => e = .returned (.bool r) ∧ Drawn0 w w' := by
  have H : ((cmp_isNaN_int.f a0).bind fun t116 => (if t116 = true then ((cmp_isNaN_int.f a1).bind fun t117 => (if t117 = true then (some (decide (a0 < a1))) else (some true))) else (some (decide (a0 < a1))))) = some r := h
  clear h
  replace H := Option.bind_eq_some_iff.mp H
  obtain ⟨t116, A30, H⟩ := H
  replace H : (if t116 = true then ((cmp_isNaN_int.f a1).bind fun t117 => (if t117 = true then (some (decide (a0 < a1))) else (some true))) else (some (decide (a0 < a1)))) = some r := H
  have A3 := Aside0.mk A30
  clear A30
  by_cases c4 : t116 = true
  · subst c4
    have H1 : ((cmp_isNaN_int.f a1).bind fun t117 => (if t117 = true then (some (decide (a0 < a1))) else (some true))) = some r := by rw [if_pos rfl] at H; exact H
    clear H
    have H := H1
    clear H1
    replace H := Option.bind_eq_some_iff.mp H
    obtain ⟨t117, A50, H⟩ := H
    replace H : (if t117 = true then (some (decide (a0 < a1))) else (some true)) = some r := H
    have A5 := Aside0.mk A50
    clear A50
    by_cases c6 : t117 = true
    · subst c6
      have H1 : (some (decide (a0 < a1))) = some r := by rw [if_pos rfl] at H; exact H
      clear H
      have H := H1
      clear H1
      obtain rfl := Option.some.inj H
      go_enter Try.func67, Try.ntmps67
      go_wp2_with (first | ((with_reducible refine gate_callee (f := 77) rfl ?_); refine goesL_ (some 6) rfl rfl Try.func77 (by kernel_rfl) rfl #[.int .i64 a0] rfl (by (try simp only [List.map_toArray, List.map_cons, List.map_nil]); first | done | rfl | (simp only [List.length_drop, List.length_take]; rfl)) ?_; (with_reducible refine (cmp_isNaN_int.calls a0 true _ A3.out).mono ?_); rintro e w' ⟨rfl, ⟨nd, rfl⟩⟩; refine ⟨_, rfl, ?_⟩) | (go_at_call 77; (with_reducible refine (cmp_isNaN_int.calls a1 true _ A5.out).mono ?_); rintro e w' ⟨rfl, ⟨nd, rfl⟩⟩))
      go_ret
      exact ⟨by first | rfl | (simp; done) | (simp [*]; done), by repeat (first | exact Drawn0.refl _ | apply Drawn0.step)⟩
    · replace c6 := Bool.eq_false_iff.mpr c6
      subst c6
      have H1 : (some true) = some r := by rw [if_neg (show ¬ (false = true) by decide)] at H; exact H
      clear H
      have H := H1
      clear H1
      obtain rfl := Option.some.inj H
      go_enter Try.func67, Try.ntmps67
      go_wp2_with (first | ((with_reducible refine gate_callee (f := 77) rfl ?_); refine goesL_ (some 6) rfl rfl Try.func77 (by kernel_rfl) rfl #[.int .i64 a0] rfl (by (try simp only [List.map_toArray, List.map_cons, List.map_nil]); first | done | rfl | (simp only [List.length_drop, List.length_take]; rfl)) ?_; (with_reducible refine (cmp_isNaN_int.calls a0 true _ A3.out).mono ?_); rintro e w' ⟨rfl, ⟨nd, rfl⟩⟩; refine ⟨_, rfl, ?_⟩) | (go_at_call 77; (with_reducible refine (cmp_isNaN_int.calls a1 false _ A5.out).mono ?_); rintro e w' ⟨rfl, ⟨nd, rfl⟩⟩))
      go_ret
      exact ⟨by first | rfl | (simp; done) | (simp [*]; done), by repeat (first | exact Drawn0.refl _ | apply Drawn0.step)⟩
  · replace c4 := Bool.eq_false_iff.mpr c4
    subst c4
    have H1 : (some (decide (a0 < a1))) = some r := by rw [if_neg (show ¬ (false = true) by decide)] at H; exact H
    clear H
    have H := H1
    clear H1
    obtain rfl := Option.some.inj H
    go_enter Try.func67, Try.ntmps67
    go_wp2_with (first | ((with_reducible refine gate_callee (f := 77) rfl ?_); refine goesL_ (some 6) rfl rfl Try.func77 (by kernel_rfl) rfl #[.int .i64 a0] rfl (by (try simp only [List.map_toArray, List.map_cons, List.map_nil]); first | done | rfl | (simp only [List.length_drop, List.length_take]; rfl)) ?_; (with_reducible refine (cmp_isNaN_int.calls a0 false _ A3.out).mono ?_); rintro e w' ⟨rfl, ⟨nd, rfl⟩⟩; refine ⟨_, rfl, ?_⟩))
    go_ret
    exact ⟨by first | rfl | (simp; done) | (simp [*]; done), by repeat (first | exact Drawn0.refl _ | apply Drawn0.step)⟩

end Go.Proofs.Ytkobiblgbpnlaaa.X
