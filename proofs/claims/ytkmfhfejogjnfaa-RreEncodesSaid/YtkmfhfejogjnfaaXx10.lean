/- What each Go function that these laws use answers: as a Lean function, with the proof that the machine's call comes to it. Written by a program of this session (xprint.py). -/
import Derived.Test.YtkmfhfejogjnfaaXx0
import Derived.Test.YtkmfhfejogjnfaaXx9
namespace Go.Proofs.Ytkmfhfejogjnfaa.X
open Go.RowKit Go.Proofs.YtkmfhfejogjnfaaW.PrintWords Go.Proofs.YtkmfhfejogjnfaaW.PrintLast Go.Proofs.YtkmfhfejogjnfaaW.PrintMore
attribute [local go_sem] max2_int min2_int max_two min_two max_three min_three max_four min_four   -- for this text's walks alone
set_option linter.unusedVariables false
set_option linter.unusedSimpArgs false

/-! ### plain_Values: function 23 -/
attribute [local go_sem] Oper.semAt_some
open Go.Shelf Go.Proofs.Ytkmfhfejogjnfaa.RX
set_option maxRecDepth 100000 in
set_option maxHeartbeats 4000000 in
theorem plain_Values_it (n : Nat) (hn : 2 ≤ n) (l Bf Bp n₀ ex : Nat) (a0_0 : Int) (a0_1 : Int) (a0_2 : Bool) (a0_3 : Bool) (a0_4 : Int) (a0_5 : Int) (a0_6 : Int) (a0_7 : Int) (a0_8 : Int) (a0_9 : Int) (A : Option Addr) (c : Nat) (xs vs : List Int)
    (hvs : ∀ k, k < xs.length → format_Value.f a0_0 a0_1 a0_2 a0_3 a0_4 a0_5 a0_6 a0_7 a0_8 a0_9 (xs.getD k 0) = some (vs.getD k 0)) (hlen : xs.length ≤ 17592186044416) (hb : Bf < n₀ ∧ Bf ≠ ex ∧ Bp < n₀ ∧ Bp ≠ ex)
    (J Jx : List {k : Nat // k < xs.length} → World → Prop) (B0 : Nat) (hJ : AbidesFrom B0 J) (hJx : AbidesFrom B0 Jx)
    (hY : ∀ pre k W, J pre W → pre.length < xs.length → YieldAt Fence.wide (n - 1) Try.prog l #[.int .i64 (vs.getD k.1 0)] W fun e W' =>
      (e = .returned (.bool true) ∧ J (pre ++ [k]) W' ∧ KeepRow n₀ ex W W') ∨ (e = .returned (.bool false) ∧ Jx (pre ++ [k]) W'))
    (W : World) (hn0 : n₀ ≤ W.heap.size) (hBf : W.heap[Bf]? = some (.cells #[.int .i64 a0_0, .int .i64 a0_1, .bool a0_2, .bool a0_3, .int .i64 a0_4, .int .i64 a0_5, .int .i64 a0_6, .int .i64 a0_7, .int .i64 a0_8, .int .i64 a0_9] 37 (0, 0))) (hBp : W.heap[Bp]? = some (.cells #[.slice A xs.length c] 22 (0, 0)))
    (hx : ∀ W', KeepRow n₀ ex W W' → ∀ i, i < xs.length → ∃ ad, A = some ad ∧ W'.cell? (ad.add i) = some (.int .i64 (xs.getD i 0))) (h0 : J [] W) :
    CallsIn Fence.wide n Try.prog 74 #[.func (.yield l) #[] #[], .pointer (some ⟨Bp, 0, none⟩), .pointer (some ⟨Bf, 0, none⟩)] W fun e W' => (∃ v, e = .returned v) ∧
      ((∃ ys, ys.map (·.1) = List.range xs.length ∧ J ys W') ∨ (∃ pre, True ∧ Jx pre W')) := by
  refine callsIn_of_wp Try.func74 rfl trivial ?_ rfl
  simp only [Try.ntmps74, List.size_toArray, List.length_cons, List.length_nil, Nat.reduceAdd, Nat.reduceSub, Array.replicate_succ, Array.replicate_zero, List.push_toArray, List.append_toArray, List.nil_append, List.cons_append]
  have p0 : W.cell? ⟨Bp, 0, none⟩ = some (.slice A xs.length c) := by rw [World.cell?, hBp]; rfl
  have HBf := Lib.hid hBf
  have HY := Lib.hid hY
  have HX := Lib.hid hx
  have HVS := Lib.hid hvs
  clear hBf hBp hY hx hvs
  gi_wp2
  clear p0
  gi_loopw [8] (fun i wr => ∃ (k : Nat) (ys : List {k : Nat // k < xs.length}), k ≤ xs.length ∧ i = .int .i64 k ∧ Hid (ys.map (·.1) = List.range k) ∧ J ys wr ∧ Hid (KeepRow n₀ ex W wr))
    (fun i _ => xs.length - (intOf i).toNat)
  case atStart => exact ⟨0, [], Nat.zero_le _, rfl, Lib.hid rfl, h0, Lib.hid (keepRow_refl _ _ _)⟩
  case round =>
    obtain ⟨k, ys, hk, rfl, HYS, hJs, HK⟩ := hrel
    have HBfr := Lib.hid (show wr.heap[Bf]? = some (.cells #[.int .i64 a0_0, .int .i64 a0_1, .bool a0_2, .bool a0_3, .int .i64 a0_4, .int .i64 a0_5, .int .i64 a0_6, .int .i64 a0_7, .int .i64 a0_8, .int .i64 a0_9] 37 (0, 0)) from (HK.out.2 _ hb.1 hb.2.1).trans HBf.out)
    have q0 : wr.cell? ⟨Bf, 0, none⟩ = some (.int .i64 a0_0) := by rw [World.cell?, HBfr.out]; rfl
    have q1 : wr.cell? ⟨Bf, 1, none⟩ = some (.int .i64 a0_1) := by rw [World.cell?, HBfr.out]; rfl
    have q2 : wr.cell? ⟨Bf, 2, none⟩ = some (.bool a0_2) := by rw [World.cell?, HBfr.out]; rfl
    have q3 : wr.cell? ⟨Bf, 3, none⟩ = some (.bool a0_3) := by rw [World.cell?, HBfr.out]; rfl
    have q4 : wr.cell? ⟨Bf, 4, none⟩ = some (.int .i64 a0_4) := by rw [World.cell?, HBfr.out]; rfl
    have q5 : wr.cell? ⟨Bf, 5, none⟩ = some (.int .i64 a0_5) := by rw [World.cell?, HBfr.out]; rfl
    have q6 : wr.cell? ⟨Bf, 6, none⟩ = some (.int .i64 a0_6) := by rw [World.cell?, HBfr.out]; rfl
    have q7 : wr.cell? ⟨Bf, 7, none⟩ = some (.int .i64 a0_7) := by rw [World.cell?, HBfr.out]; rfl
    have q8 : wr.cell? ⟨Bf, 8, none⟩ = some (.int .i64 a0_8) := by rw [World.cell?, HBfr.out]; rfl
    have q9 : wr.cell? ⟨Bf, 9, none⟩ = some (.int .i64 a0_9) := by rw [World.cell?, HBfr.out]; rfl
    by_cases hlt : k < xs.length
    · obtain ⟨ad, rfl, hxc⟩ := HX.out wr HK.out k hlt
      have hV := HVS.out k hlt
      obtain ⟨x, hxe⟩ : ∃ x, xs.getD k 0 = x := ⟨_, rfl⟩
      obtain ⟨v, hve⟩ : ∃ v, vs.getD k 0 = v := ⟨_, rfl⟩
      rw [hxe] at hxc hV
      rw [hve] at hV
      have HV := Lib.hid hV
      have HVE := Lib.hid hve
      have HJS := Lib.hid hJs
      clear hV hxe hve hJs
      gi_wp2_with (refine ⟨trivial, fun _ => by omega, ?_⟩; gi_at_call 75; refine (callsIn_wide.2 (format_Value.calls a0_0 a0_1 a0_2 a0_3 a0_4 a0_5 a0_6 a0_7 a0_8 a0_9 x v _ HV.out)).mono ?_; rintro e w1 ⟨rfl, hb1⟩; obtain ⟨fn, tmps, assign, body, hy2, hR⟩ := HY.out ys ⟨k, hlt⟩ w1 (hJ _ _ _ none HJS.out (grownBy_below_ hb1) (fun r h => by cases h)) (by have := congrArg List.length HYS.out; simp at this; omega); dsimp only at hy2; rw [HVE.out] at hy2; have HR := Lib.hid hR; have HB1 := Lib.hid hb1; clear hR hb1)
      refine ⟨fun _ => by omega, HR.out.mono ?_⟩
      rintro e W3 (⟨rfl, h1, h2⟩ | ⟨rfl, h1⟩)
      · have H2 := Lib.hid h2
        clear h2 hy2
        gi_wp2
        go_roundw
        case rel => exact ⟨k + 1, ys ++ [⟨k, hlt⟩], by omega, by simp, Lib.hid (by rw [List.map_append, HYS.out, List.range_succ]; rfl), h1, Lib.hid (keepRow_t (keepRow_t HK.out (keepRow_below (Nat.le_trans hn0 HK.out.1) HB1.out)) H2.out)⟩
        case measure => simp [intOf]; omega
      · clear hy2
        gi_wp2
        refine bodyPost_ret (results_none rfl _ _ _) rfl ?_
        exact ⟨⟨_, rfl⟩, .inr ⟨_, trivial, h1⟩⟩
    · gi_wp2
      go_end0
      exact ⟨⟨_, rfl⟩, .inl ⟨ys, by have h1 := HYS.out; rw [show k = xs.length by omega] at h1; exact h1, hJs⟩⟩
set_option maxHeartbeats 1000000 in
theorem plain_Values_maker (a0_0 : Int) (a0_1 : Int) (a0_2 : Bool) (a0_3 : Bool) (a0_4 : Int) (a0_5 : Int) (a0_6 : Int) (a0_7 : Int) (a0_8 : Int) (a0_9 : Int) (A : Option Addr) (len c : Nat) (w : World) :
    Calls Try.prog 52 #[.agg #[.int .i64 a0_0, .int .i64 a0_1, .bool a0_2, .bool a0_3, .int .i64 a0_4, .int .i64 a0_5, .int .i64 a0_6, .int .i64 a0_7, .int .i64 a0_8, .int .i64 a0_9], .slice A len c] w fun e w' => e = .returned (.func (.func 74) #[] #[.pointer (some ⟨w.heap.size + 1, 0, none⟩), .pointer (some ⟨w.heap.size, 0, none⟩)]) ∧
      w' = (w.alloc (.cells #[.int .i64 a0_0, .int .i64 a0_1, .bool a0_2, .bool a0_3, .int .i64 a0_4, .int .i64 a0_5, .int .i64 a0_6, .int .i64 a0_7, .int .i64 a0_8, .int .i64 a0_9] 37)).alloc (.cells #[.slice A len c] 22) := by
  go_enter Try.func52, Try.ntmps52
  go_wp2
  go_ret
  exact ⟨rfl, rfl⟩
theorem plain_Values_stops (n : Nat) (hn : 2 ≤ n) (Bf Bp n₀ ex : Nat) (a0_0 : Int) (a0_1 : Int) (a0_2 : Bool) (a0_3 : Bool) (a0_4 : Int) (a0_5 : Int) (a0_6 : Int) (a0_7 : Int) (a0_8 : Int) (a0_9 : Int) (A : Option Addr) (c : Nat) (xs vs : List Int)
    (hvs : ∀ k, k < xs.length → format_Value.f a0_0 a0_1 a0_2 a0_3 a0_4 a0_5 a0_6 a0_7 a0_8 a0_9 (xs.getD k 0) = some (vs.getD k 0)) (hlen : xs.length ≤ 17592186044416) (hb : Bf < n₀ ∧ Bf ≠ ex ∧ Bp < n₀ ∧ Bp ≠ ex)
    (W : World) (hn0 : n₀ ≤ W.heap.size) (hBf : W.heap[Bf]? = some (.cells #[.int .i64 a0_0, .int .i64 a0_1, .bool a0_2, .bool a0_3, .int .i64 a0_4, .int .i64 a0_5, .int .i64 a0_6, .int .i64 a0_7, .int .i64 a0_8, .int .i64 a0_9] 37 (0, 0))) (hBp : W.heap[Bp]? = some (.cells #[.slice A xs.length c] 22 (0, 0)))
    (hx : ∀ W', KeepRow n₀ ex W W' → ∀ i, i < xs.length → ∃ ad, A = some ad ∧ W'.cell? (ad.add i) = some (.int .i64 (xs.getD i 0))) :
    SeqStopsK Fence.wide n Try.prog 74 #[.pointer (some ⟨Bp, 0, none⟩), .pointer (some ⟨Bf, 0, none⟩)] (fun k : {k : Nat // k < xs.length} => #[.int .i64 (vs.getD k.1 0)]) (KeepRow n₀ ex)
      (fun ys => ys.map (·.1) = List.range xs.length) (fun _ => True) xs.length W := fun l J Jx W1 hW hJ hJx hY h0 => by
  refine plain_Values_it n hn l Bf Bp n₀ ex a0_0 a0_1 a0_2 a0_3 a0_4 a0_5 a0_6 a0_7 a0_8 a0_9 A c xs vs hvs hlen hb J Jx W1.heap.size hJ hJx hY W1 (Nat.le_trans hn0 hW.size) ?_ ?_ ?_ h0
  · exact (hW.block _ (by omega)).trans hBf
  · exact (hW.block _ (by omega)).trans hBp
  · exact fun W' hk => hx W' ⟨Nat.le_trans hW.size hk.1, fun q hq hne => (hk.2 q hq hne).trans (hW.block q (by omega))⟩

/-- The values of colours. -/
def plain_Values_F (a0_0 : Int) (a0_1 : Int) (a0_2 : Bool) (a0_3 : Bool) (a0_4 : Int) (a0_5 : Int) (a0_6 : Int) (a0_7 : Int) (a0_8 : Int) (a0_9 : Int) : List Int → Option (List Int)
  | [] => some []
  | c :: l => (format_Value.f a0_0 a0_1 a0_2 a0_3 a0_4 a0_5 a0_6 a0_7 a0_8 a0_9 c).bind fun v => (plain_Values_F a0_0 a0_1 a0_2 a0_3 a0_4 a0_5 a0_6 a0_7 a0_8 a0_9 l).bind fun r => some (v :: r)
theorem plain_Values_Fspec (a0_0 : Int) (a0_1 : Int) (a0_2 : Bool) (a0_3 : Bool) (a0_4 : Int) (a0_5 : Int) (a0_6 : Int) (a0_7 : Int) (a0_8 : Int) (a0_9 : Int) : ∀ (l r : List Int), plain_Values_F a0_0 a0_1 a0_2 a0_3 a0_4 a0_5 a0_6 a0_7 a0_8 a0_9 l = some r → r.length = l.length ∧ ∀ k, k < l.length → format_Value.f a0_0 a0_1 a0_2 a0_3 a0_4 a0_5 a0_6 a0_7 a0_8 a0_9 (l.getD k 0) = some (r.getD k 0)
  | [], r, h => by
    simp only [plain_Values_F] at h
    obtain rfl := Option.some.inj h
    exact ⟨rfl, fun k hk => by simp at hk⟩
  | c :: l, r, h => by
    simp only [plain_Values_F] at h
    obtain ⟨v, hv, h⟩ := Option.bind_eq_some_iff.1 h
    obtain ⟨r', hr, h⟩ := Option.bind_eq_some_iff.1 h
    obtain rfl := Option.some.inj h
    obtain ⟨i1, i2⟩ := plain_Values_Fspec a0_0 a0_1 a0_2 a0_3 a0_4 a0_5 a0_6 a0_7 a0_8 a0_9 l r' hr
    refine ⟨by simp [i1], fun k hk => ?_⟩
    cases k with
    | zero => simpa using hv
    | succ k => simpa using i2 k (by simpa using hk)
def plain_Values.f (a0_0 : Int) (a0_1 : Int) (a0_2 : Bool) (a0_3 : Bool) (a0_4 : Int) (a0_5 : Int) (a0_6 : Int) (a0_7 : Int) (a0_8 : Int) (a0_9 : Int) (l1 : List Int) : Option (List Int) := if l1.length < 17592186044416 then plain_Values_F a0_0 a0_1 a0_2 a0_3 a0_4 a0_5 a0_6 a0_7 a0_8 a0_9 l1 else none
theorem plain_Values_all (n : Nat) (vs : List Int) (hl : vs.length = n) (ys : List {k : Nat // k < n}) (h : ys.map (·.1) = List.range n) : ys.map (fun k => vs.getD k.1 0) = vs := by
  have h1 : ys.map (fun k => vs.getD k.1 0) = (ys.map (·.1)).map (fun k => vs.getD k 0) := by rw [List.map_map]; rfl
  rw [h1, h]
  apply List.ext_getElem?
  intro i
  rw [List.getElem?_map]
  by_cases hi : i < n
  · rw [List.getElem?_range hi]; simp [List.getD, List.getElem?_eq_getElem (show i < vs.length by omega)]
  · rw [List.getElem?_eq_none (by simp; omega), List.getElem?_eq_none (by omega)]; rfl
set_option maxHeartbeats 4000000 in
set_option maxRecDepth 100000 in
theorem plain_Values.calls (a0_0 : Int) (a0_1 : Int) (a0_2 : Bool) (a0_3 : Bool) (a0_4 : Int) (a0_5 : Int) (a0_6 : Int) (a0_7 : Int) (a0_8 : Int) (a0_9 : Int) (A1 : Option Addr) (c1 : Nat) (l1 : List Int) (r : List Int) (w : World) (hr1 : Kd.C (Kd.int .i64) w A1 l1.length l1) (hc1 : l1.length ≤ c1) (h : plain_Values.f a0_0 a0_1 a0_2 a0_3 a0_4 a0_5 a0_6 a0_7 a0_8 a0_9 l1 = some r) :
    Calls Try.prog 23 #[.agg #[.int .i64 a0_0, .int .i64 a0_1, .bool a0_2, .bool a0_3, .int .i64 a0_4, .int .i64 a0_5, .int .i64 a0_6, .int .i64 a0_7, .int .i64 a0_8, .int .i64 a0_9], .slice A1 l1.length c1] w fun e w' => ∃ v0_ : Value, e = .returned (v0_) ∧ Kd.R (Kd.int .i64) 3 w' w.heap.size (fun _ => True) v0_ r ∧ Below w.heap.size w w' := by
  obtain ⟨i0, hi, hz0, hz1, hz2⟩ := info_parts info3
  unfold plain_Values.f at h
  by_cases hlen : l1.length < 17592186044416
  case neg => rw [if_neg hlen] at h; cases h
  rw [if_pos hlen] at h
  obtain ⟨hrl, hr⟩ := plain_Values_Fspec a0_0 a0_1 a0_2 a0_3 a0_4 a0_5 a0_6 a0_7 a0_8 a0_9 l1 r h
  have HC := Lib.hid hr1
  have HR := Lib.hid hr
  clear hr1 h hc1
  refine (callsIn_wide (n := 4)).1 ?_
  refine callsIn_of_wp_marks Try.func23 rfl trivial ?_ rfl
  simp only [Try.ntmps23, List.size_toArray, List.length_cons, List.length_nil, Nat.reduceAdd, Nat.reduceSub, Array.replicate_succ, Array.replicate_zero, List.push_toArray, List.append_toArray, List.nil_append, List.cons_append]
  gi_wp2_with (refine ⟨trivial, ?_⟩; gi_at_call 52; refine (callsIn_wide.2 (plain_Values_maker a0_0 a0_1 a0_2 a0_3 a0_4 a0_5 a0_6 a0_7 a0_8 a0_9 A1 l1.length c1 _)).mono ?_; rintro e _ ⟨rfl, rfl⟩)
  obtain ⟨Wl, hWl⟩ : ∃ Wl, ((((w.alloc (.cells #[.int .i64 a0_0, .int .i64 a0_1, .bool a0_2, .bool a0_3, .int .i64 a0_4, .int .i64 a0_5, .int .i64 a0_6, .int .i64 a0_7, .int .i64 a0_8, .int .i64 a0_9] 37)).alloc (.cells #[.slice none 0 0] 22)).alloc (.cells #[.int .i64 a0_0, .int .i64 a0_1, .bool a0_2, .bool a0_3, .int .i64 a0_4, .int .i64 a0_5, .int .i64 a0_6, .int .i64 a0_7, .int .i64 a0_8, .int .i64 a0_9] 37)).alloc (.cells #[.slice A1 l1.length c1] 22)) = Wl := ⟨_, rfl⟩
  have hb2 : Below w.heap.size w Wl := by rw [← hWl]; exact below_alloc (below_alloc (below_alloc (below_alloc (Below.refl _ _) _) _) _) _
  have hsl : Wl.heap.size = w.heap.size + 4 := by rw [← hWl]; simp
  have hB0 : Wl.heap[w.heap.size]? = some (.cells #[.int .i64 a0_0, .int .i64 a0_1, .bool a0_2, .bool a0_3, .int .i64 a0_4, .int .i64 a0_5, .int .i64 a0_6, .int .i64 a0_7, .int .i64 a0_8, .int .i64 a0_9] 37 (0, 0)) := by
    rw [← hWl]; exact (Below.heap_alloc _ _ _ (by simp <;> omega)).trans ((Below.heap_alloc _ _ _ (by simp <;> omega)).trans ((Below.heap_alloc _ _ _ (by simp)).trans (heap_alloc_new w _)))
  have hB1 : Wl.heap[w.heap.size + 1]? = some (.cells #[.slice none 0 0] 22 (0, 0)) := by
    have h0 := heap_alloc_new (w.alloc (.cells #[.int .i64 a0_0, .int .i64 a0_1, .bool a0_2, .bool a0_3, .int .i64 a0_4, .int .i64 a0_5, .int .i64 a0_6, .int .i64 a0_7, .int .i64 a0_8, .int .i64 a0_9] 37)) (.cells #[.slice none 0 0] 22)
    rw [World.size_alloc] at h0
    rw [← hWl]; exact (Below.heap_alloc _ _ _ (by simp <;> omega)).trans ((Below.heap_alloc _ _ _ (by simp)).trans h0)
  have hB2 : Wl.heap[w.heap.size + 2]? = some (.cells #[.int .i64 a0_0, .int .i64 a0_1, .bool a0_2, .bool a0_3, .int .i64 a0_4, .int .i64 a0_5, .int .i64 a0_6, .int .i64 a0_7, .int .i64 a0_8, .int .i64 a0_9] 37 (0, 0)) := by
    have h0 := heap_alloc_new ((w.alloc (.cells #[.int .i64 a0_0, .int .i64 a0_1, .bool a0_2, .bool a0_3, .int .i64 a0_4, .int .i64 a0_5, .int .i64 a0_6, .int .i64 a0_7, .int .i64 a0_8, .int .i64 a0_9] 37)).alloc (.cells #[.slice none 0 0] 22)) (.cells #[.int .i64 a0_0, .int .i64 a0_1, .bool a0_2, .bool a0_3, .int .i64 a0_4, .int .i64 a0_5, .int .i64 a0_6, .int .i64 a0_7, .int .i64 a0_8, .int .i64 a0_9] 37)
    rw [World.size_alloc, World.size_alloc] at h0
    rw [← hWl]; exact (Below.heap_alloc _ _ _ (by simp)).trans h0
  have hB3 : Wl.heap[w.heap.size + 3]? = some (.cells #[.slice A1 l1.length c1] 22 (0, 0)) := by
    have h0 := heap_alloc_new (((w.alloc (.cells #[.int .i64 a0_0, .int .i64 a0_1, .bool a0_2, .bool a0_3, .int .i64 a0_4, .int .i64 a0_5, .int .i64 a0_6, .int .i64 a0_7, .int .i64 a0_8, .int .i64 a0_9] 37)).alloc (.cells #[.slice none 0 0] 22)).alloc (.cells #[.int .i64 a0_0, .int .i64 a0_1, .bool a0_2, .bool a0_3, .int .i64 a0_4, .int .i64 a0_5, .int .i64 a0_6, .int .i64 a0_7, .int .i64 a0_8, .int .i64 a0_9] 37)) (.cells #[.slice A1 l1.length c1] 22)
    rw [World.size_alloc, World.size_alloc, World.size_alloc, hWl] at h0; exact h0
  have hxs : ∀ W', KeepRow Wl.heap.size (w.heap.size + 1) Wl W' → ∀ i, i < l1.length → ∃ ad, A1 = some ad ∧ W'.cell? (ad.add i) = some (.int .i64 (l1.getD i 0)) := fun W' hk i hi => by
    obtain ⟨ad, ha, hc⟩ := (Kd.reads_of_C (d := 0) HC.out).at_ (i : Int) (by omega) (by omega)
    rw [Int.toNat_natCast] at hc
    refine ⟨ad, ha, ?_⟩
    have hlt : (ad.add i).block < w.heap.size := by
      rcases Nat.lt_or_ge (ad.add i).block w.heap.size with h1 | h1
      · exact h1
      · rw [World.cell?, Array.getElem?_eq_none h1] at hc; cases hc
    have h1 : W'.heap[(ad.add i).block]? = w.heap[(ad.add i).block]? := (hk.2 _ (by omega) (by omega)).trans (hb2.block _ hlt)
    rw [World.cell?_of_block h1]
    simpa [rdOf, List.getD] using hc
  rw [hWl]
  refine rf_all (α := {k : Nat // k < l1.length}) (by decide) rfl (enters_of Try.func74 (by kernel_rfl) rfl)
    (plain_Values_stops 3 (by decide) (w.heap.size + 2) (w.heap.size + 3) Wl.heap.size (w.heap.size + 1) a0_0 a0_1 a0_2 a0_3 a0_4 a0_5 a0_6 a0_7 a0_8 a0_9 A1 c1 l1 r HR.out (by omega) ⟨by omega, by omega, by omega, by omega⟩ Wl (Nat.le_refl _) hB2 hB3 hxs)
    keepRow_t (keepRow_b (Nat.le_refl _)) (fun _ => rfl)
    (fun pre Wx => (∃ v, Boxed Wx (w.heap.size + 1) 22 v ∧ Wx.ownsRow Wl.heap.size 3 1 v pre.length ((pre.map (fun k => r.getD k.1 0)).map (Value.int .i64)) ∧ True) ∧ KP (w.heap.size + 1) Wl Wx)
    (OwnFrom.and (Own.from (holdsRow_own Wl.heap.size (w.heap.size + 1) 22 3 1 (fun pre : List {k : Nat // k < l1.length} => pre.length) (fun pre => (pre.map (fun k => r.getD k.1 0)).map (Value.int .i64)) (fun _ _ => True)) _) (ownFrom_kp (Nat.le_refl _)))
    ⟨⟨.slice none 0 0, hB1, World.ownsRow_nil _ _ _ _, trivial⟩, KP.refl _ _⟩ ?_
  apply Exists.intro
  refine ⟨?assign, ?body, ?done⟩
  case assign =>
    intro l x W K hK
    gi_wp2
    exact hK
  case body =>
    rintro l pre k Wx ⟨⟨v, hv, hown, _⟩, hK⟩ hpl
    obtain ⟨x, hx⟩ : ∃ x, r.getD k.1 0 = x := ⟨_, rfl⟩
    have hx2 : r[k.1]?.getD 0 = x := by rw [← hx]; simp
    have hnew : (pre ++ [k]).map (fun k => r.getD k.1 0) = pre.map (fun k => r.getD k.1 0) ++ [x] := by simp [← hx]
    have hcv := hv.cell
    have hfv := hv.frozen
    have HV := Lib.hid hv
    have HOWN := Lib.hid hown
    have HK := Lib.hid hK
    have HN := Lib.hid hnew
    clear hv hown hK hWl hB0 hB1 hB2 hB3 hxs hnew
    first
      | simp only [hx2]
      | simp only [hx]
    clear hx hx2
    gi_wp2_with (gi_at_builtin; refine wpListIn_append_own _ rfl _ _ 22 rfl Wl.heap.size 3 i0 (.int .i64 0) 1 8 Try.underlying22 hi hz0 hz1 hz2 rfl (by decide) _ _ _ rfl (HOWN.out.alloc _) ⟨Wx.heap.size, 0, none⟩ 1 1 [.int .i64 x] rfl rfl (cell_one_new _ _ _) (by simp [Value.oneCell']) (by unfold maxLen; omega) (by omega) (by have := HK.out.size; simp; omega) ?_; intro v' w2 hown' hgrow _; obtain ⟨g', cap', rfl⟩ := ownsRow_succ hown'; obtain ⟨hv1, hv2, hr2, hk2, hkp⟩ := boxed_appended (HV.out.alloc _) (by decide) (HOWN.out.alloc _) hown' hgrow; have hkp2 := hkp Wl (HK.out.alloc _) (Nat.le_refl _); have hc1 := hv1.cell; have hf1 := hv1.frozen; have HV2 := Lib.hid hv2; have HR2 := Lib.hid hr2; have HK2 := Lib.hid hk2; have HKP2 := Lib.hid hkp2; have HGS := Lib.hid hgrow.size; clear hv1 hv2 hr2 hk2 hkp hkp2 hown' hgrow)
    refine ⟨(KeepsOthers.alloc _ _).trans HK2.out, ⟨?_, fun q hq hn => (HKP2.out.block q hq hn).trans (HK.out.block q hq hn).symm⟩, ⟨_, HV2.out, ?_, trivial⟩, HKP2.out⟩
    · have h1 := HGS.out
      have h2 := HK2.out.size
      simp [World.setCell] at h1 ⊢
      omega
    · rw [HN.out, List.map_append, List.length_append]
      exact HR2.out
  case done =>
    rintro D xs Wx hD hS ⟨⟨v, hv, hown, _⟩, hK⟩ hDD
    have hcv := hv.cell
    rw [plain_Values_all l1.length r hrl xs hS] at hown
    have hxl : xs.length = l1.length := by have := congrArg List.length hS; simpa using this
    rw [hxl] at hown
    obtain ⟨A', c', rfl⟩ := own_slice hown
    have HOWN := Lib.hid hown
    have HK := Lib.hid hK
    have HDD := Lib.hid hDD
    have HSL := Lib.hid hsl
    have HB2 := Lib.hid hb2
    have HRL := Lib.hid hrl
    clear hown hK hDD hsl hWl hB0 hB1 hB2 hB3 hxs hb2 hrl hxl
    gi_wp2
    refine ⟨by first | (simp; done) | rfl | trivial | omega, .inl ⟨_, _, rfl, run_takeDeferred HDD.out, ?_⟩⟩
    have hbx := belowK_b (w := Wl) (Nat.le_refl _) Wx D (.deferred (some [])) (.deferred none) hD HDD.out rfl rfl
    have hDD := HDD.out
    have hne : some D ≠ (Value.slice A' l1.length c').ownBlock := by
      intro h
      rcases HOWN.out.2 with ⟨he, _⟩ | ⟨g', cap, cur, he, _, hg', _⟩
      · rw [he] at h; cases h
      · rw [he] at h
        obtain rfl : D = g' := by simpa [Value.ownBlock] using h
        rw [hDD] at hg'; cases hg'
    refine ⟨_, results_tmp rfl _ _ _, _, rfl, ?_, ?_⟩
    · have h1 := HOWN.out.kept (grownBy_putObj' Wx D (.deferred none)) (.inr hne.symm)
      refine Kd.R_of_own (enc := Value.int .i64) ?_ (fun _ _ => trivial)
      rw [HRL.out]
      exact ⟨by first | exact h1.1 | (simp [encs, HRL.out]), h1.2.imp id (fun ⟨g', cap, cur, e1, e2, e3⟩ => ⟨g', cap, cur, e1, by have := HSL.out; omega, e3⟩)⟩
    · have hs := HSL.out
      exact ⟨hbx.os.trans (HK.out.os.trans HB2.out.os), hbx.tape.trans (HK.out.tape.trans HB2.out.tape), hbx.output.trans (HK.out.output.trans HB2.out.output), Nat.le_trans HB2.out.size (Nat.le_trans HK.out.size hbx.size), fun q hq => (hbx.block q (by omega)).trans ((HK.out.block q (by omega) (by omega)).trans (HB2.out.block q hq))⟩

-- NOT PRINTED: function 76 (abi_NoEscape)

-- NOT PRINTED: function 54 (strings_Builder_copyCheck)

-- NOT PRINTED: function 29 (strings_Builder_WriteString)

end Go.Proofs.Ytkmfhfejogjnfaa.X
