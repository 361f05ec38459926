/- What each Go function that these laws use answers: as a Lean function, with the proof that the machine's call comes to it. Written by a program of this session (xprint.py). -/
import Derived.Test.YtloigmonfbfieaaXx0
import Derived.Test.YtloigmonfbfieaaXx2
import Derived.Test.YtloigmonfbfieaaXx9
namespace Go.Proofs.Ytloigmonfbfieaa.X
open Go.RowKit Go.Proofs.YtloigmonfbfieaaW.PrintWords Go.Proofs.YtloigmonfbfieaaW.PrintLast Go.Proofs.YtloigmonfbfieaaW.PrintMore
attribute [local go_sem] max2_int min2_int max_two min_two max_three min_three max_four min_four   -- for this text's walks alone
set_option linter.unusedVariables false
set_option linter.unusedSimpArgs false

/-! ### plain_Values: function 17 -/
attribute [local go_sem] Oper.semAt_some
open Go.Shelf Go.Proofs.Ytloigmonfbfieaa.RX
set_option maxRecDepth 100000 in
set_option maxHeartbeats 4000000 in
theorem plain_Values_it (n : Nat) (hn : 2 ≤ n) (l Bf Bp n₀ ex : Nat) (a0_0 : Int) (a0_1 : Int) (a0_2 : Bool) (a0_3 : Bool) (a0_4 : Int) (a0_5 : Int) (a0_6 : Int) (a0_7 : Int) (a0_8 : Int) (a0_9 : Int) (A : Option Addr) (c : Nat) (xs vs : List Int)
    (hvs : ∀ k, k < xs.length → format_Value.f a0_0 a0_1 a0_2 a0_3 a0_4 a0_5 a0_6 a0_7 a0_8 a0_9 (xs.getD k 0) = some (vs.getD k 0)) (hlen : xs.length ≤ 17592186044416) (hb : Bf < n₀ ∧ Bf ≠ ex ∧ Bp < n₀ ∧ Bp ≠ ex)
    (J Jx : List {k : Nat // k < xs.length} → World → Prop) (B0 : Nat) (hJ : AbidesFrom B0 J) (hJx : AbidesFrom B0 Jx)
    (hY : ∀ pre k W, J pre W → pre.length < xs.length → YieldAt Fence.wide (n - 1) Try.prog l #[.int .i64 (vs.getD k.1 0)] W fun e W' =>
      (e = .returned (.bool true) ∧ J (pre ++ [k]) W' ∧ KeepRow n₀ ex W W') ∨ (e = .returned (.bool false) ∧ Jx (pre ++ [k]) W'))
    (W : World) (hn0 : n₀ ≤ W.heap.size) (hBf : W.heap[Bf]? = some (.cells #[.int .i64 a0_0, .int .i64 a0_1, .bool a0_2, .bool a0_3, .int .i64 a0_4, .int .i64 a0_5, .int .i64 a0_6, .int .i64 a0_7, .int .i64 a0_8, .int .i64 a0_9] 23 (0, 0))) (hBp : W.heap[Bp]? = some (.cells #[.slice A xs.length c] 24 (0, 0)))
    (hx : ∀ W', KeepRow n₀ ex W W' → ∀ i, i < xs.length → ∃ ad, A = some ad ∧ W'.cell? (ad.add i) = some (.int .i64 (xs.getD i 0))) (h0 : J [] W) :
    CallsIn Fence.wide n Try.prog 51 #[.func (.yield l) #[] #[], .pointer (some ⟨Bp, 0, none⟩), .pointer (some ⟨Bf, 0, none⟩)] W fun e W' => (∃ v, e = .returned v) ∧
      ((∃ ys, ys.map (·.1) = List.range xs.length ∧ J ys W') ∨ (∃ pre, True ∧ Jx pre W')) := by
  refine callsIn_of_wp Try.func51 rfl trivial ?_ rfl
  simp only [Try.ntmps51, List.size_toArray, List.length_cons, List.length_nil, Nat.reduceAdd, Nat.reduceSub, Array.replicate_succ, Array.replicate_zero, List.push_toArray, List.append_toArray, List.nil_append, List.cons_append]
  have p0 : W.cell? ⟨Bp, 0, none⟩ = some (.slice A xs.length c) := by rw [World.cell?, hBp]; rfl
  have HBf := Lib.hid hBf
  have HY := Lib.hid hY
  have HX := Lib.hid hx
  have HVS := Lib.hid hvs
  clear hBf hBp hY hx hvs
  gi_wp2
  clear p0
  gi_loopw [8] (fun i wr => ∃ (k : Nat) (ys : List {k : Nat // k < xs.length}), k ≤ xs.length ∧ i = .int .i64 k ∧ Hid (ys.map (·.1) = List.range k) ∧ J ys wr ∧ Hid (KeepRow n₀ ex W wr))
    (fun i _ => xs.length - (intOf i).toNat)
  case atStart => exact ⟨0, [], Nat.zero_le _, rfl, Lib.hid rfl, h0, Lib.hid (keepRow_refl _ _ _)⟩
  case round =>
    obtain ⟨k, ys, hk, rfl, HYS, hJs, HK⟩ := hrel
    have HBfr := Lib.hid (show wr.heap[Bf]? = some (.cells #[.int .i64 a0_0, .int .i64 a0_1, .bool a0_2, .bool a0_3, .int .i64 a0_4, .int .i64 a0_5, .int .i64 a0_6, .int .i64 a0_7, .int .i64 a0_8, .int .i64 a0_9] 23 (0, 0)) from (HK.out.2 _ hb.1 hb.2.1).trans HBf.out)
    have q0 : wr.cell? ⟨Bf, 0, none⟩ = some (.int .i64 a0_0) := by rw [World.cell?, HBfr.out]; rfl
    have q1 : wr.cell? ⟨Bf, 1, none⟩ = some (.int .i64 a0_1) := by rw [World.cell?, HBfr.out]; rfl
    have q2 : wr.cell? ⟨Bf, 2, none⟩ = some (.bool a0_2) := by rw [World.cell?, HBfr.out]; rfl
    have q3 : wr.cell? ⟨Bf, 3, none⟩ = some (.bool a0_3) := by rw [World.cell?, HBfr.out]; rfl
    have q4 : wr.cell? ⟨Bf, 4, none⟩ = some (.int .i64 a0_4) := by rw [World.cell?, HBfr.out]; rfl
    have q5 : wr.cell? ⟨Bf, 5, none⟩ = some (.int .i64 a0_5) := by rw [World.cell?, HBfr.out]; rfl
    have q6 : wr.cell? ⟨Bf, 6, none⟩ = some (.int .i64 a0_6) := by rw [World.cell?, HBfr.out]; rfl
    have q7 : wr.cell? ⟨Bf, 7, none⟩ = some (.int .i64 a0_7) := by rw [World.cell?, HBfr.out]; rfl
    have q8 : wr.cell? ⟨Bf, 8, none⟩ = some (.int .i64 a0_8) := by rw [World.cell?, HBfr.out]; rfl
    have q9 : wr.cell? ⟨Bf, 9, none⟩ = some (.int .i64 a0_9) := by rw [World.cell?, HBfr.out]; rfl
    by_cases hlt : k < xs.length
    · obtain ⟨ad, rfl, hxc⟩ := HX.out wr HK.out k hlt
      have hV := HVS.out k hlt
      obtain ⟨x, hxe⟩ : ∃ x, xs.getD k 0 = x := ⟨_, rfl⟩
      obtain ⟨v, hve⟩ : ∃ v, vs.getD k 0 = v := ⟨_, rfl⟩
      rw [hxe] at hxc hV
      rw [hve] at hV
      have HV := Lib.hid hV
      have HVE := Lib.hid hve
      have HJS := Lib.hid hJs
      clear hV hxe hve hJs
      gi_wp2_with (refine ⟨trivial, fun _ => by omega, ?_⟩; gi_at_call 37; refine (callsIn_wide.2 (format_Value.calls a0_0 a0_1 a0_2 a0_3 a0_4 a0_5 a0_6 a0_7 a0_8 a0_9 x v _ HV.out)).mono ?_; rintro e w1 ⟨rfl, hb1⟩; obtain ⟨fn, tmps, assign, body, hy2, hR⟩ := HY.out ys ⟨k, hlt⟩ w1 (hJ _ _ _ none HJS.out (grownBy_below_ hb1) (fun r h => by cases h)) (by have := congrArg List.length HYS.out; simp at this; omega); dsimp only at hy2; rw [HVE.out] at hy2; have HR := Lib.hid hR; have HB1 := Lib.hid hb1; clear hR hb1)
      refine ⟨fun _ => by omega, HR.out.mono ?_⟩
      rintro e W3 (⟨rfl, h1, h2⟩ | ⟨rfl, h1⟩)
      · have H2 := Lib.hid h2
        clear h2 hy2
        gi_wp2
        go_roundw
        case rel => exact ⟨k + 1, ys ++ [⟨k, hlt⟩], by omega, by simp, Lib.hid (by rw [List.map_append, HYS.out, List.range_succ]; rfl), h1, Lib.hid (keepRow_t (keepRow_t HK.out (keepRow_below (Nat.le_trans hn0 HK.out.1) HB1.out)) H2.out)⟩
        case measure => simp [intOf]; omega
      · clear hy2
        gi_wp2
        refine bodyPost_ret (results_none rfl _ _ _) rfl ?_
        exact ⟨⟨_, rfl⟩, .inr ⟨_, trivial, h1⟩⟩
    · gi_wp2
      go_end0
      exact ⟨⟨_, rfl⟩, .inl ⟨ys, by have h1 := HYS.out; rw [show k = xs.length by omega] at h1; exact h1, hJs⟩⟩
set_option maxHeartbeats 1000000 in
theorem plain_Values_maker (a0_0 : Int) (a0_1 : Int) (a0_2 : Bool) (a0_3 : Bool) (a0_4 : Int) (a0_5 : Int) (a0_6 : Int) (a0_7 : Int) (a0_8 : Int) (a0_9 : Int) (A : Option Addr) (len c : Nat) (w : World) :
    Calls Try.prog 27 #[.agg #[.int .i64 a0_0, .int .i64 a0_1, .bool a0_2, .bool a0_3, .int .i64 a0_4, .int .i64 a0_5, .int .i64 a0_6, .int .i64 a0_7, .int .i64 a0_8, .int .i64 a0_9], .slice A len c] w fun e w' => e = .returned (.func (.func 51) #[] #[.pointer (some ⟨w.heap.size + 1, 0, none⟩), .pointer (some ⟨w.heap.size, 0, none⟩)]) ∧
      w' = (w.alloc (.cells #[.int .i64 a0_0, .int .i64 a0_1, .bool a0_2, .bool a0_3, .int .i64 a0_4, .int .i64 a0_5, .int .i64 a0_6, .int .i64 a0_7, .int .i64 a0_8, .int .i64 a0_9] 23)).alloc (.cells #[.slice A len c] 24) := by
  go_enter Try.func27, Try.ntmps27
  go_wp2
  go_ret
  exact ⟨rfl, rfl⟩
theorem plain_Values_stops (n : Nat) (hn : 2 ≤ n) (Bf Bp n₀ ex : Nat) (a0_0 : Int) (a0_1 : Int) (a0_2 : Bool) (a0_3 : Bool) (a0_4 : Int) (a0_5 : Int) (a0_6 : Int) (a0_7 : Int) (a0_8 : Int) (a0_9 : Int) (A : Option Addr) (c : Nat) (xs vs : List Int)
    (hvs : ∀ k, k < xs.length → format_Value.f a0_0 a0_1 a0_2 a0_3 a0_4 a0_5 a0_6 a0_7 a0_8 a0_9 (xs.getD k 0) = some (vs.getD k 0)) (hlen : xs.length ≤ 17592186044416) (hb : Bf < n₀ ∧ Bf ≠ ex ∧ Bp < n₀ ∧ Bp ≠ ex)
    (W : World) (hn0 : n₀ ≤ W.heap.size) (hBf : W.heap[Bf]? = some (.cells #[.int .i64 a0_0, .int .i64 a0_1, .bool a0_2, .bool a0_3, .int .i64 a0_4, .int .i64 a0_5, .int .i64 a0_6, .int .i64 a0_7, .int .i64 a0_8, .int .i64 a0_9] 23 (0, 0))) (hBp : W.heap[Bp]? = some (.cells #[.slice A xs.length c] 24 (0, 0)))
    (hx : ∀ W', KeepRow n₀ ex W W' → ∀ i, i < xs.length → ∃ ad, A = some ad ∧ W'.cell? (ad.add i) = some (.int .i64 (xs.getD i 0))) :
    SeqStopsK Fence.wide n Try.prog 51 #[.pointer (some ⟨Bp, 0, none⟩), .pointer (some ⟨Bf, 0, none⟩)] (fun k : {k : Nat // k < xs.length} => #[.int .i64 (vs.getD k.1 0)]) (KeepRow n₀ ex)
      (fun ys => ys.map (·.1) = List.range xs.length) (fun _ => True) xs.length W := fun l J Jx W1 hW hJ hJx hY h0 => by
  refine plain_Values_it n hn l Bf Bp n₀ ex a0_0 a0_1 a0_2 a0_3 a0_4 a0_5 a0_6 a0_7 a0_8 a0_9 A c xs vs hvs hlen hb J Jx W1.heap.size hJ hJx hY W1 (Nat.le_trans hn0 hW.size) ?_ ?_ ?_ h0
  · exact (hW.block _ (by omega)).trans hBf
  · exact (hW.block _ (by omega)).trans hBp
  · exact fun W' hk => hx W' ⟨Nat.le_trans hW.size hk.1, fun q hq hne => (hk.2 q hq hne).trans (hW.block q (by omega))⟩

/-- The values of colours. -/
def plain_Values_F (a0_0 : Int) (a0_1 : Int) (a0_2 : Bool) (a0_3 : Bool) (a0_4 : Int) (a0_5 : Int) (a0_6 : Int) (a0_7 : Int) (a0_8 : Int) (a0_9 : Int) : List Int → Option (List Int)
  | [] => some []
  | c :: l => (format_Value.f a0_0 a0_1 a0_2 a0_3 a0_4 a0_5 a0_6 a0_7 a0_8 a0_9 c).bind fun v => (plain_Values_F a0_0 a0_1 a0_2 a0_3 a0_4 a0_5 a0_6 a0_7 a0_8 a0_9 l).bind fun r => some (v :: r)
theorem plain_Values_Fspec (a0_0 : Int) (a0_1 : Int) (a0_2 : Bool) (a0_3 : Bool) (a0_4 : Int) (a0_5 : Int) (a0_6 : Int) (a0_7 : Int) (a0_8 : Int) (a0_9 : Int) : ∀ (l r : List Int), plain_Values_F a0_0 a0_1 a0_2 a0_3 a0_4 a0_5 a0_6 a0_7 a0_8 a0_9 l = some r → r.length = l.length ∧ ∀ k, k < l.length → format_Value.f a0_0 a0_1 a0_2 a0_3 a0_4 a0_5 a0_6 a0_7 a0_8 a0_9 (l.getD k 0) = some (r.getD k 0)
  | [], r, h => by
    simp only [plain_Values_F] at h
    obtain rfl := Option.some.inj h
    exact ⟨rfl, fun k hk => by simp at hk⟩
  | c :: l, r, h => by
    simp only [plain_Values_F] at h
    obtain ⟨v, hv, h⟩ := Option.bind_eq_some_iff.1 h
    obtain ⟨r', hr, h⟩ := Option.bind_eq_some_iff.1 h
    obtain rfl := Option.some.inj h
    obtain ⟨i1, i2⟩ := plain_Values_Fspec a0_0 a0_1 a0_2 a0_3 a0_4 a0_5 a0_6 a0_7 a0_8 a0_9 l r' hr
    refine ⟨by simp [i1], fun k hk => ?_⟩
    cases k with
    | zero => simpa using hv
    | succ k => simpa using i2 k (by simpa using hk)
def plain_Values.f (a0_0 : Int) (a0_1 : Int) (a0_2 : Bool) (a0_3 : Bool) (a0_4 : Int) (a0_5 : Int) (a0_6 : Int) (a0_7 : Int) (a0_8 : Int) (a0_9 : Int) (l1 : List Int) : Option (List Int) := if l1.length < 17592186044416 then plain_Values_F a0_0 a0_1 a0_2 a0_3 a0_4 a0_5 a0_6 a0_7 a0_8 a0_9 l1 else none
theorem plain_Values_all (n : Nat) (vs : List Int) (hl : vs.length = n) (ys : List {k : Nat // k < n}) (h : ys.map (·.1) = List.range n) : ys.map (fun k => vs.getD k.1 0) = vs := by
  have h1 : ys.map (fun k => vs.getD k.1 0) = (ys.map (·.1)).map (fun k => vs.getD k 0) := by rw [List.map_map]; rfl
  rw [h1, h]
  apply List.ext_getElem?
  intro i
  rw [List.getElem?_map]
  by_cases hi : i < n
  · rw [List.getElem?_range hi]; simp [List.getD, List.getElem?_eq_getElem (show i < vs.length by omega)]
  · rw [List.getElem?_eq_none (by simp; omega), List.getElem?_eq_none (by omega)]; rfl
set_option maxHeartbeats 4000000 in
set_option maxRecDepth 100000 in
theorem plain_Values.calls (a0_0 : Int) (a0_1 : Int) (a0_2 : Bool) (a0_3 : Bool) (a0_4 : Int) (a0_5 : Int) (a0_6 : Int) (a0_7 : Int) (a0_8 : Int) (a0_9 : Int) (A1 : Option Addr) (c1 : Nat) (l1 : List Int) (r : List Int) (w : World) (hr1 : Kd.C (Kd.int .i64) w A1 l1.length l1) (hc1 : l1.length ≤ c1) (h : plain_Values.f a0_0 a0_1 a0_2 a0_3 a0_4 a0_5 a0_6 a0_7 a0_8 a0_9 l1 = some r) :
    Calls Try.prog 17 #[.agg #[.int .i64 a0_0, .int .i64 a0_1, .bool a0_2, .bool a0_3, .int .i64 a0_4, .int .i64 a0_5, .int .i64 a0_6, .int .i64 a0_7, .int .i64 a0_8, .int .i64 a0_9], .slice A1 l1.length c1] w fun e w' => ∃ v0_ : Value, e = .returned (v0_) ∧ Kd.R (Kd.int .i64) 3 w' w.heap.size (fun _ => True) v0_ r ∧ Below w.heap.size w w' := by
  obtain ⟨i0, hi, hz0, hz1, hz2⟩ := info_parts info3
  unfold plain_Values.f at h
  by_cases hlen : l1.length < 17592186044416
  case neg => rw [if_neg hlen] at h; cases h
  rw [if_pos hlen] at h
  obtain ⟨hrl, hr⟩ := plain_Values_Fspec a0_0 a0_1 a0_2 a0_3 a0_4 a0_5 a0_6 a0_7 a0_8 a0_9 l1 r h
  have HC := Lib.hid hr1
  have HR := Lib.hid hr
  clear hr1 h hc1
  refine (callsIn_wide (n := 4)).1 ?_
  refine callsIn_of_wp_marks Try.func17 rfl trivial ?_ rfl
  simp only [Try.ntmps17, List.size_toArray, List.length_cons, List.length_nil, Nat.reduceAdd, Nat.reduceSub, Array.replicate_succ, Array.replicate_zero, List.push_toArray, List.append_toArray, List.nil_append, List.cons_append]
  gi_wp2_with (refine ⟨trivial, ?_⟩; gi_at_call 27; refine (callsIn_wide.2 (plain_Values_maker a0_0 a0_1 a0_2 a0_3 a0_4 a0_5 a0_6 a0_7 a0_8 a0_9 A1 l1.length c1 _)).mono ?_; rintro e _ ⟨rfl, rfl⟩)
  obtain ⟨Wl, hWl⟩ : ∃ Wl, ((((w.alloc (.cells #[.int .i64 a0_0, .int .i64 a0_1, .bool a0_2, .bool a0_3, .int .i64 a0_4, .int .i64 a0_5, .int .i64 a0_6, .int .i64 a0_7, .int .i64 a0_8, .int .i64 a0_9] 23)).alloc (.cells #[.slice none 0 0] 24)).alloc (.cells #[.int .i64 a0_0, .int .i64 a0_1, .bool a0_2, .bool a0_3, .int .i64 a0_4, .int .i64 a0_5, .int .i64 a0_6, .int .i64 a0_7, .int .i64 a0_8, .int .i64 a0_9] 23)).alloc (.cells #[.slice A1 l1.length c1] 24)) = Wl := ⟨_, rfl⟩
  have hb2 : Below w.heap.size w Wl := by rw [← hWl]; exact below_alloc (below_alloc (below_alloc (below_alloc (Below.refl _ _) _) _) _) _
  have hsl : Wl.heap.size = w.heap.size + 4 := by rw [← hWl]; simp
  have hB0 : Wl.heap[w.heap.size]? = some (.cells #[.int .i64 a0_0, .int .i64 a0_1, .bool a0_2, .bool a0_3, .int .i64 a0_4, .int .i64 a0_5, .int .i64 a0_6, .int .i64 a0_7, .int .i64 a0_8, .int .i64 a0_9] 23 (0, 0)) := by
    rw [← hWl]; exact (Below.heap_alloc _ _ _ (by simp <;> omega)).trans ((Below.heap_alloc _ _ _ (by simp <;> omega)).trans ((Below.heap_alloc _ _ _ (by simp)).trans (heap_alloc_new w _)))
  have hB1 : Wl.heap[w.heap.size + 1]? = some (.cells #[.slice none 0 0] 24 (0, 0)) := by
    have h0 := heap_alloc_new (w.alloc (.cells #[.int .i64 a0_0, .int .i64 a0_1, .bool a0_2, .bool a0_3, .int .i64 a0_4, .int .i64 a0_5, .int .i64 a0_6, .int .i64 a0_7, .int .i64 a0_8, .int .i64 a0_9] 23)) (.cells #[.slice none 0 0] 24)
    rw [World.size_alloc] at h0
    rw [← hWl]; exact (Below.heap_alloc _ _ _ (by simp <;> omega)).trans ((Below.heap_alloc _ _ _ (by simp)).trans h0)
  have hB2 : Wl.heap[w.heap.size + 2]? = some (.cells #[.int .i64 a0_0, .int .i64 a0_1, .bool a0_2, .bool a0_3, .int .i64 a0_4, .int .i64 a0_5, .int .i64 a0_6, .int .i64 a0_7, .int .i64 a0_8, .int .i64 a0_9] 23 (0, 0)) := by
    have h0 := heap_alloc_new ((w.alloc (.cells #[.int .i64 a0_0, .int .i64 a0_1, .bool a0_2, .bool a0_3, .int .i64 a0_4, .int .i64 a0_5, .int .i64 a0_6, .int .i64 a0_7, .int .i64 a0_8, .int .i64 a0_9] 23)).alloc (.cells #[.slice none 0 0] 24)) (.cells #[.int .i64 a0_0, .int .i64 a0_1, .bool a0_2, .bool a0_3, .int .i64 a0_4, .int .i64 a0_5, .int .i64 a0_6, .int .i64 a0_7, .int .i64 a0_8, .int .i64 a0_9] 23)
    rw [World.size_alloc, World.size_alloc] at h0
    rw [← hWl]; exact (Below.heap_alloc _ _ _ (by simp)).trans h0
  have hB3 : Wl.heap[w.heap.size + 3]? = some (.cells #[.slice A1 l1.length c1] 24 (0, 0)) := by
    have h0 := heap_alloc_new (((w.alloc (.cells #[.int .i64 a0_0, .int .i64 a0_1, .bool a0_2, .bool a0_3, .int .i64 a0_4, .int .i64 a0_5, .int .i64 a0_6, .int .i64 a0_7, .int .i64 a0_8, .int .i64 a0_9] 23)).alloc (.cells #[.slice none 0 0] 24)).alloc (.cells #[.int .i64 a0_0, .int .i64 a0_1, .bool a0_2, .bool a0_3, .int .i64 a0_4, .int .i64 a0_5, .int .i64 a0_6, .int .i64 a0_7, .int .i64 a0_8, .int .i64 a0_9] 23)) (.cells #[.slice A1 l1.length c1] 24)
    rw [World.size_alloc, World.size_alloc, World.size_alloc, hWl] at h0; exact h0
  have hxs : ∀ W', KeepRow Wl.heap.size (w.heap.size + 1) Wl W' → ∀ i, i < l1.length → ∃ ad, A1 = some ad ∧ W'.cell? (ad.add i) = some (.int .i64 (l1.getD i 0)) := fun W' hk i hi => by
    obtain ⟨ad, ha, hc⟩ := (Kd.reads_of_C (d := 0) HC.out).at_ (i : Int) (by omega) (by omega)
    rw [Int.toNat_natCast] at hc
    refine ⟨ad, ha, ?_⟩
    have hlt : (ad.add i).block < w.heap.size := by
      rcases Nat.lt_or_ge (ad.add i).block w.heap.size with h1 | h1
      · exact h1
      · rw [World.cell?, Array.getElem?_eq_none h1] at hc; cases hc
    have h1 : W'.heap[(ad.add i).block]? = w.heap[(ad.add i).block]? := (hk.2 _ (by omega) (by omega)).trans (hb2.block _ hlt)
    rw [World.cell?_of_block h1]
    simpa [rdOf, List.getD] using hc
  rw [hWl]
  refine rf_all (α := {k : Nat // k < l1.length}) (by decide) rfl (enters_of Try.func51 (by kernel_rfl) rfl)
    (plain_Values_stops 3 (by decide) (w.heap.size + 2) (w.heap.size + 3) Wl.heap.size (w.heap.size + 1) a0_0 a0_1 a0_2 a0_3 a0_4 a0_5 a0_6 a0_7 a0_8 a0_9 A1 c1 l1 r HR.out (by omega) ⟨by omega, by omega, by omega, by omega⟩ Wl (Nat.le_refl _) hB2 hB3 hxs)
    keepRow_t (keepRow_b (Nat.le_refl _)) (fun _ => rfl)
    (fun pre Wx => (∃ v, Boxed Wx (w.heap.size + 1) 24 v ∧ Wx.ownsRow Wl.heap.size 3 1 v pre.length ((pre.map (fun k => r.getD k.1 0)).map (Value.int .i64)) ∧ True) ∧ KP (w.heap.size + 1) Wl Wx)
    (OwnFrom.and (Own.from (holdsRow_own Wl.heap.size (w.heap.size + 1) 24 3 1 (fun pre : List {k : Nat // k < l1.length} => pre.length) (fun pre => (pre.map (fun k => r.getD k.1 0)).map (Value.int .i64)) (fun _ _ => True)) _) (ownFrom_kp (Nat.le_refl _)))
    ⟨⟨.slice none 0 0, hB1, World.ownsRow_nil _ _ _ _, trivial⟩, KP.refl _ _⟩ ?_
  apply Exists.intro
  refine ⟨?assign, ?body, ?done⟩
  case assign =>
    intro l x W K hK
    gi_wp2
    exact hK
  case body =>
    rintro l pre k Wx ⟨⟨v, hv, hown, _⟩, hK⟩ hpl
    obtain ⟨x, hx⟩ : ∃ x, r.getD k.1 0 = x := ⟨_, rfl⟩
    have hx2 : r[k.1]?.getD 0 = x := by rw [← hx]; simp
    have hnew : (pre ++ [k]).map (fun k => r.getD k.1 0) = pre.map (fun k => r.getD k.1 0) ++ [x] := by simp [← hx]
    have hcv := hv.cell
    have hfv := hv.frozen
    have HV := Lib.hid hv
    have HOWN := Lib.hid hown
    have HK := Lib.hid hK
    have HN := Lib.hid hnew
    clear hv hown hK hWl hB0 hB1 hB2 hB3 hxs hnew
    first
      | simp only [hx2]
      | simp only [hx]
    clear hx hx2
    gi_wp2_with (gi_at_builtin; refine wpListIn_append_own _ rfl _ _ 24 rfl Wl.heap.size 3 i0 (.int .i64 0) 1 8 Try.underlying24 hi hz0 hz1 hz2 rfl (by decide) _ _ _ rfl (HOWN.out.alloc _) ⟨Wx.heap.size, 0, none⟩ 1 1 [.int .i64 x] rfl rfl (cell_one_new _ _ _) (by simp [Value.oneCell']) (by unfold maxLen; omega) (by omega) (by have := HK.out.size; simp; omega) ?_; intro v' w2 hown' hgrow _; obtain ⟨g', cap', rfl⟩ := ownsRow_succ hown'; obtain ⟨hv1, hv2, hr2, hk2, hkp⟩ := boxed_appended (HV.out.alloc _) (by decide) (HOWN.out.alloc _) hown' hgrow; have hkp2 := hkp Wl (HK.out.alloc _) (Nat.le_refl _); have hc1 := hv1.cell; have hf1 := hv1.frozen; have HV2 := Lib.hid hv2; have HR2 := Lib.hid hr2; have HK2 := Lib.hid hk2; have HKP2 := Lib.hid hkp2; have HGS := Lib.hid hgrow.size; clear hv1 hv2 hr2 hk2 hkp hkp2 hown' hgrow)
    refine ⟨(KeepsOthers.alloc _ _).trans HK2.out, ⟨?_, fun q hq hn => (HKP2.out.block q hq hn).trans (HK.out.block q hq hn).symm⟩, ⟨_, HV2.out, ?_, trivial⟩, HKP2.out⟩
    · have h1 := HGS.out
      have h2 := HK2.out.size
      simp [World.setCell] at h1 ⊢
      omega
    · rw [HN.out, List.map_append, List.length_append]
      exact HR2.out
  case done =>
    rintro D xs Wx hD hS ⟨⟨v, hv, hown, _⟩, hK⟩ hDD
    have hcv := hv.cell
    rw [plain_Values_all l1.length r hrl xs hS] at hown
    have hxl : xs.length = l1.length := by have := congrArg List.length hS; simpa using this
    rw [hxl] at hown
    obtain ⟨A', c', rfl⟩ := own_slice hown
    have HOWN := Lib.hid hown
    have HK := Lib.hid hK
    have HDD := Lib.hid hDD
    have HSL := Lib.hid hsl
    have HB2 := Lib.hid hb2
    have HRL := Lib.hid hrl
    clear hown hK hDD hsl hWl hB0 hB1 hB2 hB3 hxs hb2 hrl hxl
    gi_wp2
    refine ⟨by first | (simp; done) | rfl | trivial | omega, .inl ⟨_, _, rfl, run_takeDeferred HDD.out, ?_⟩⟩
    have hbx := belowK_b (w := Wl) (Nat.le_refl _) Wx D (.deferred (some [])) (.deferred none) hD HDD.out rfl rfl
    have hDD := HDD.out
    have hne : some D ≠ (Value.slice A' l1.length c').ownBlock := by
      intro h
      rcases HOWN.out.2 with ⟨he, _⟩ | ⟨g', cap, cur, he, _, hg', _⟩
      · rw [he] at h; cases h
      · rw [he] at h
        obtain rfl : D = g' := by simpa [Value.ownBlock] using h
        rw [hDD] at hg'; cases hg'
    refine ⟨_, results_tmp rfl _ _ _, _, rfl, ?_, ?_⟩
    · have h1 := HOWN.out.kept (grownBy_putObj' Wx D (.deferred none)) (.inr hne.symm)
      refine Kd.R_of_own (enc := Value.int .i64) ?_ (fun _ _ => trivial)
      rw [HRL.out]
      exact ⟨by first | exact h1.1 | (simp [encs, HRL.out]), h1.2.imp id (fun ⟨g', cap, cur, e1, e2, e3⟩ => ⟨g', cap, cur, e1, by have := HSL.out; omega, e3⟩)⟩
    · have hs := HSL.out
      exact ⟨hbx.os.trans (HK.out.os.trans HB2.out.os), hbx.tape.trans (HK.out.tape.trans HB2.out.tape), hbx.output.trans (HK.out.output.trans HB2.out.output), Nat.le_trans HB2.out.size (Nat.le_trans HK.out.size hbx.size), fun q hq => (hbx.block q (by omega)).trans ((HK.out.block q (by omega) (by omega)).trans (HB2.out.block q hq))⟩

/-! ### miradorref13_down: function 62 -/
def miradorref13_down.f (a0 : Int) (a1 : Int) (a2 : Int) : Option (Int) := if 0 ≤ a2 then (some (shl .i64 (wrap64 (Int.tdiv (wrap64 ((wrap64 (a0 * a1)) + 127)) 255)) a2)) else (none)
set_option maxHeartbeats 8000000 in
set_option maxRecDepth 100000 in
theorem miradorref13_down.calls (a0 : Int) (a1 : Int) (a2 : Int) (r : Int) (w : World) (h : miradorref13_down.f a0 a1 a2 = some r) :
    Calls Try.prog 62 #[.int .i64 a0, .int .i64 a1, .int .i64 a2] w fun e w' => e = .returned (.int .i64 r) ∧ Drawn0 w w' := by
  have H : (if 0 ≤ a2 then (some (shl .i64 (wrap64 (Int.tdiv (wrap64 ((wrap64 (a0 * a1)) + 127)) 255)) a2)) else (none)) = some r := h
  clear h
  by_cases c4 : 0 ≤ a2
  · rw [if_pos c4] at H
    have c4b0 := eq_true c4
    have c4b1 : decide (0 ≤ a2) = true := decide_eq_true c4
    clear c4
    obtain ⟨ji5, hji5⟩ : ∃ j_ : Int, (shl .i64 (wrap64 (Int.tdiv (wrap64 ((wrap64 (a0 * a1)) + 127)) 255)) a2) = j_ := ⟨_, rfl⟩
    replace H : (some ji5) = some r := by first | (rw [hji5] at H; exact H) | (simp only [hji5] at H ⊢; exact H)
    have hji5_ : (IntKind.i64.wrap ((wrap64 (Int.tdiv (wrap64 ((wrap64 (a0 * a1)) + 127)) 255)) * 2 ^ min a2.toNat 64)) = ji5 := hji5
    have hji5z : a2 ≤ 64 → (IntKind.i64.wrap ((wrap64 (Int.tdiv (wrap64 ((wrap64 (a0 * a1)) + 127)) 255)) * 2 ^ a2.toNat)) = ji5 := shl_small hji5
    have hji5y : (wrap64 ((wrap64 (Int.tdiv (wrap64 ((wrap64 (a0 * a1)) + 127)) 255)) * 2 ^ min a2.toNat 64)) = ji5 := (i64_w _).symm.trans hji5_
    have hji5x : a2 ≤ 64 → (wrap64 ((wrap64 (Int.tdiv (wrap64 ((wrap64 (a0 * a1)) + 127)) 255)) * 2 ^ a2.toNat)) = ji5 := fun h_ => (i64_w _).symm.trans (hji5z h_)
    obtain rfl := Option.some.inj H
    go_enter Try.func62, Try.ntmps62
    go_wp2
    go_ret
    exact ⟨by first | rfl | (simp; done) | (simp only [← hji5] <;> (first | rfl | simp)) | (simp [*]; done), by repeat (first | exact Drawn0.refl _ | apply Drawn0.step)⟩
  · rw [if_neg c4] at H
    exact absurd H (by simp)

/-! ### miradorref13_Value: function 44 -/
def miradorref13_Value.f (a0_0 : Int) (a0_1 : Int) (a0_2 : Bool) (a0_3 : Bool) (a0_4 : Int) (a0_5 : Int) (a0_6 : Int) (a0_7 : Int) (a0_8 : Int) (a0_9 : Int) (a1 : Int) : Option (Int) := (miradorref13_down.f (Go.bits .and .i64 (a1 / 65536) 255) a0_4 a0_7).bind fun t242 => ((miradorref13_down.f (Go.bits .and .i64 (a1 / 256) 255) a0_5 a0_8).bind fun t243 => ((miradorref13_down.f (Go.bits .and .i64 a1 255) a0_6 a0_9).bind fun t244 => (some (wrap64 ((wrap64 (t242 + t243)) + t244)))))
set_option maxHeartbeats 8000000 in
set_option maxRecDepth 100000 in
theorem miradorref13_Value.calls (a0_0 : Int) (a0_1 : Int) (a0_2 : Bool) (a0_3 : Bool) (a0_4 : Int) (a0_5 : Int) (a0_6 : Int) (a0_7 : Int) (a0_8 : Int) (a0_9 : Int) (a1 : Int) (r : Int) (w : World) (h : miradorref13_Value.f a0_0 a0_1 a0_2 a0_3 a0_4 a0_5 a0_6 a0_7 a0_8 a0_9 a1 = some r) :
    Calls Try.prog 44 #[.agg #[.int .i64 a0_0, .int .i64 a0_1, .bool a0_2, .bool a0_3, .int .i64 a0_4, .int .i64 a0_5, .int .i64 a0_6, .int .i64 a0_7, .int .i64 a0_8, .int .i64 a0_9], .int .i64 a1] w fun e w' => e = .returned (.int .i64 r) ∧ Below w.heap.size w w' := by
  have hu23 := Try.underlying23
  have HB := Aside0.mk (Below.refl w.heap.size w)
  have H : ((miradorref13_down.f (Go.bits .and .i64 (a1 / 65536) 255) a0_4 a0_7).bind fun t242 => ((miradorref13_down.f (Go.bits .and .i64 (a1 / 256) 255) a0_5 a0_8).bind fun t243 => ((miradorref13_down.f (Go.bits .and .i64 a1 255) a0_6 a0_9).bind fun t244 => (some (wrap64 ((wrap64 (t242 + t243)) + t244)))))) = some r := h
  clear h
  replace H := Option.bind_eq_some_iff.mp H
  obtain ⟨t242, A30, H⟩ := H
  replace H : ((miradorref13_down.f (Go.bits .and .i64 (a1 / 256) 255) a0_5 a0_8).bind fun t243 => ((miradorref13_down.f (Go.bits .and .i64 a1 255) a0_6 a0_9).bind fun t244 => (some (wrap64 ((wrap64 (t242 + t243)) + t244))))) = some r := H
  have A3 := Aside0.mk A30
  clear A30
  replace H := Option.bind_eq_some_iff.mp H
  obtain ⟨t243, A40, H⟩ := H
  replace H : ((miradorref13_down.f (Go.bits .and .i64 a1 255) a0_6 a0_9).bind fun t244 => (some (wrap64 ((wrap64 (t242 + t243)) + t244)))) = some r := H
  have A4 := Aside0.mk A40
  clear A40
  replace H := Option.bind_eq_some_iff.mp H
  obtain ⟨t244, A50, H⟩ := H
  replace H : (some (wrap64 ((wrap64 (t242 + t243)) + t244))) = some r := H
  have A5 := Aside0.mk A50
  clear A50
  obtain rfl := Option.some.inj H
  go_enter Try.func44, Try.ntmps44
  go_wp2_with (first | ((with_reducible refine gate_dst (N := 2) rfl ?_); refine box_event ?hg (N := 2) ?hd (cs := #[.int .i64 a0_0, .int .i64 a0_1, .bool a0_2, .bool a0_3, .int .i64 a0_4, .int .i64 a0_5, .int .i64 a0_6, .int .i64 a0_7, .int .i64 a0_8, .int .i64 a0_9]) (t := 23) ?hr ?_; (case hd => rfl); (case hg => rfl); (case hr => first | (go_simp; done) | (go_simp; rfl)); intro gb241 hg w6 hbox hb; have n0_ := Aside0.mk (below_step (by repeat (first | (with_reducible first | exact HB.out | apply below_alloc | apply pw_below_drewN | apply below_drew1) | exact HB.out)) hb); have n1_ := Aside0.mk (hbox); have n2_ := Aside0.mk ((by rw [hg]; exact (below_size (by repeat (first | (with_reducible first | exact HB.out | apply below_alloc | apply pw_below_drewN | apply below_drew1) | exact HB.out))) : w.heap.size ≤ gb241)); have n3_ := Aside0.mk ((by rw [hg]; exact (below_size (by repeat (first | (with_reducible first | exact HB.out | apply below_alloc | apply pw_below_drewN | apply below_drew1) | exact HB.out))) : w.heap.size ≤ gb241)); clear HB; have HB := n0_; have BK241 := n1_; have GW241 := n2_; have GE241 := n3_; clear n0_ n1_ n2_ n3_; clear hb hbox hg; have hcz7_0 : w6.cell? ⟨gb241, 0, none⟩ = some (.int .i64 a0_0) := (blk_cell BK241.out 0).trans rfl; have hcz7_1 : w6.cell? ⟨gb241, 1, none⟩ = some (.int .i64 a0_1) := (blk_cell BK241.out 1).trans rfl; have hcz7_2 : w6.cell? ⟨gb241, 2, none⟩ = some (.bool a0_2) := (blk_cell BK241.out 2).trans rfl; have hcz7_3 : w6.cell? ⟨gb241, 3, none⟩ = some (.bool a0_3) := (blk_cell BK241.out 3).trans rfl; have hcz7_4 : w6.cell? ⟨gb241, 4, none⟩ = some (.int .i64 a0_4) := (blk_cell BK241.out 4).trans rfl; have hcz7_5 : w6.cell? ⟨gb241, 5, none⟩ = some (.int .i64 a0_5) := (blk_cell BK241.out 5).trans rfl; have hcz7_6 : w6.cell? ⟨gb241, 6, none⟩ = some (.int .i64 a0_6) := (blk_cell BK241.out 6).trans rfl; have hcz7_7 : w6.cell? ⟨gb241, 7, none⟩ = some (.int .i64 a0_7) := (blk_cell BK241.out 7).trans rfl; have hcz7_8 : w6.cell? ⟨gb241, 8, none⟩ = some (.int .i64 a0_8) := (blk_cell BK241.out 8).trans rfl; have hcz7_9 : w6.cell? ⟨gb241, 9, none⟩ = some (.int .i64 a0_9) := (blk_cell BK241.out 9).trans rfl; have hfz7_0 := blk_frozen BK241.out 0; have hfz7_1 := blk_frozen BK241.out 1; have hfz7_2 := blk_frozen BK241.out 2; have hfz7_3 := blk_frozen BK241.out 3; have hfz7_4 := blk_frozen BK241.out 4; have hfz7_5 := blk_frozen BK241.out 5; have hfz7_6 := blk_frozen BK241.out 6; have hfz7_7 := blk_frozen BK241.out 7; have hfz7_8 := blk_frozen BK241.out 8; have hfz7_9 := blk_frozen BK241.out 9) | (go_at_call 62; (with_reducible refine (miradorref13_down.calls (Go.bits .and .i64 (a1 / 65536) 255) a0_4 a0_7 t242 _ A3.out).mono ?_); rintro e w' ⟨rfl, ⟨nd, rfl⟩⟩; (try first | exact ⟨rfl, _, World.drewN_drewN _ _ _⟩ | exact ⟨rfl, _, Eq.trans (World.drewN_drewN _ _ _) (congrArg (World.drewN _) (Nat.add_assoc _ _ _))⟩)) | (go_at_call 62; (with_reducible refine (miradorref13_down.calls (Go.bits .and .i64 (a1 / 256) 255) a0_5 a0_8 t243 _ A4.out).mono ?_); rintro e w' ⟨rfl, ⟨nd, rfl⟩⟩; (try first | exact ⟨rfl, _, World.drewN_drewN _ _ _⟩ | exact ⟨rfl, _, Eq.trans (World.drewN_drewN _ _ _) (congrArg (World.drewN _) (Nat.add_assoc _ _ _))⟩)) | (go_at_call 62; (with_reducible refine (miradorref13_down.calls (Go.bits .and .i64 a1 255) a0_6 a0_9 t244 _ A5.out).mono ?_); rintro e w' ⟨rfl, ⟨nd, rfl⟩⟩; (try first | exact ⟨rfl, _, World.drewN_drewN _ _ _⟩ | exact ⟨rfl, _, Eq.trans (World.drewN_drewN _ _ _) (congrArg (World.drewN _) (Nat.add_assoc _ _ _))⟩)))
  repeat (go_quiet (first | ((with_reducible refine gate_dst (N := 2) rfl ?_); refine box_event ?hg (N := 2) ?hd (cs := #[.int .i64 a0_0, .int .i64 a0_1, .bool a0_2, .bool a0_3, .int .i64 a0_4, .int .i64 a0_5, .int .i64 a0_6, .int .i64 a0_7, .int .i64 a0_8, .int .i64 a0_9]) (t := 23) ?hr ?_; (case hd => rfl); (case hg => rfl); (case hr => first | (go_simp; done) | (go_simp; rfl)); intro gb241 hg w6 hbox hb; have n0_ := Aside0.mk (below_step (by repeat (first | (with_reducible first | exact HB.out | apply below_alloc | apply pw_below_drewN | apply below_drew1) | exact HB.out)) hb); have n1_ := Aside0.mk (hbox); have n2_ := Aside0.mk ((by rw [hg]; exact (below_size (by repeat (first | (with_reducible first | exact HB.out | apply below_alloc | apply pw_below_drewN | apply below_drew1) | exact HB.out))) : w.heap.size ≤ gb241)); have n3_ := Aside0.mk ((by rw [hg]; exact (below_size (by repeat (first | (with_reducible first | exact HB.out | apply below_alloc | apply pw_below_drewN | apply below_drew1) | exact HB.out))) : w.heap.size ≤ gb241)); clear HB; have HB := n0_; have BK241 := n1_; have GW241 := n2_; have GE241 := n3_; clear n0_ n1_ n2_ n3_; clear hb hbox hg; have hcz7_0 : w6.cell? ⟨gb241, 0, none⟩ = some (.int .i64 a0_0) := (blk_cell BK241.out 0).trans rfl; have hcz7_1 : w6.cell? ⟨gb241, 1, none⟩ = some (.int .i64 a0_1) := (blk_cell BK241.out 1).trans rfl; have hcz7_2 : w6.cell? ⟨gb241, 2, none⟩ = some (.bool a0_2) := (blk_cell BK241.out 2).trans rfl; have hcz7_3 : w6.cell? ⟨gb241, 3, none⟩ = some (.bool a0_3) := (blk_cell BK241.out 3).trans rfl; have hcz7_4 : w6.cell? ⟨gb241, 4, none⟩ = some (.int .i64 a0_4) := (blk_cell BK241.out 4).trans rfl; have hcz7_5 : w6.cell? ⟨gb241, 5, none⟩ = some (.int .i64 a0_5) := (blk_cell BK241.out 5).trans rfl; have hcz7_6 : w6.cell? ⟨gb241, 6, none⟩ = some (.int .i64 a0_6) := (blk_cell BK241.out 6).trans rfl; have hcz7_7 : w6.cell? ⟨gb241, 7, none⟩ = some (.int .i64 a0_7) := (blk_cell BK241.out 7).trans rfl; have hcz7_8 : w6.cell? ⟨gb241, 8, none⟩ = some (.int .i64 a0_8) := (blk_cell BK241.out 8).trans rfl; have hcz7_9 : w6.cell? ⟨gb241, 9, none⟩ = some (.int .i64 a0_9) := (blk_cell BK241.out 9).trans rfl; have hfz7_0 := blk_frozen BK241.out 0; have hfz7_1 := blk_frozen BK241.out 1; have hfz7_2 := blk_frozen BK241.out 2; have hfz7_3 := blk_frozen BK241.out 3; have hfz7_4 := blk_frozen BK241.out 4; have hfz7_5 := blk_frozen BK241.out 5; have hfz7_6 := blk_frozen BK241.out 6; have hfz7_7 := blk_frozen BK241.out 7; have hfz7_8 := blk_frozen BK241.out 8; have hfz7_9 := blk_frozen BK241.out 9) | (go_at_call 62; (with_reducible refine (miradorref13_down.calls (Go.bits .and .i64 (a1 / 65536) 255) a0_4 a0_7 t242 _ A3.out).mono ?_); rintro e w' ⟨rfl, ⟨nd, rfl⟩⟩; (try first | exact ⟨rfl, _, World.drewN_drewN _ _ _⟩ | exact ⟨rfl, _, Eq.trans (World.drewN_drewN _ _ _) (congrArg (World.drewN _) (Nat.add_assoc _ _ _))⟩)) | (go_at_call 62; (with_reducible refine (miradorref13_down.calls (Go.bits .and .i64 (a1 / 256) 255) a0_5 a0_8 t243 _ A4.out).mono ?_); rintro e w' ⟨rfl, ⟨nd, rfl⟩⟩; (try first | exact ⟨rfl, _, World.drewN_drewN _ _ _⟩ | exact ⟨rfl, _, Eq.trans (World.drewN_drewN _ _ _) (congrArg (World.drewN _) (Nat.add_assoc _ _ _))⟩)) | (go_at_call 62; (with_reducible refine (miradorref13_down.calls (Go.bits .and .i64 a1 255) a0_6 a0_9 t244 _ A5.out).mono ?_); rintro e w' ⟨rfl, ⟨nd, rfl⟩⟩; (try first | exact ⟨rfl, _, World.drewN_drewN _ _ _⟩ | exact ⟨rfl, _, Eq.trans (World.drewN_drewN _ _ _) (congrArg (World.drewN _) (Nat.add_assoc _ _ _))⟩))); try go_wp2_with (first | ((with_reducible refine gate_dst (N := 2) rfl ?_); refine box_event ?hg (N := 2) ?hd (cs := #[.int .i64 a0_0, .int .i64 a0_1, .bool a0_2, .bool a0_3, .int .i64 a0_4, .int .i64 a0_5, .int .i64 a0_6, .int .i64 a0_7, .int .i64 a0_8, .int .i64 a0_9]) (t := 23) ?hr ?_; (case hd => rfl); (case hg => rfl); (case hr => first | (go_simp; done) | (go_simp; rfl)); intro gb241 hg w6 hbox hb; have n0_ := Aside0.mk (below_step (by repeat (first | (with_reducible first | exact HB.out | apply below_alloc | apply pw_below_drewN | apply below_drew1) | exact HB.out)) hb); have n1_ := Aside0.mk (hbox); have n2_ := Aside0.mk ((by rw [hg]; exact (below_size (by repeat (first | (with_reducible first | exact HB.out | apply below_alloc | apply pw_below_drewN | apply below_drew1) | exact HB.out))) : w.heap.size ≤ gb241)); have n3_ := Aside0.mk ((by rw [hg]; exact (below_size (by repeat (first | (with_reducible first | exact HB.out | apply below_alloc | apply pw_below_drewN | apply below_drew1) | exact HB.out))) : w.heap.size ≤ gb241)); clear HB; have HB := n0_; have BK241 := n1_; have GW241 := n2_; have GE241 := n3_; clear n0_ n1_ n2_ n3_; clear hb hbox hg; have hcz7_0 : w6.cell? ⟨gb241, 0, none⟩ = some (.int .i64 a0_0) := (blk_cell BK241.out 0).trans rfl; have hcz7_1 : w6.cell? ⟨gb241, 1, none⟩ = some (.int .i64 a0_1) := (blk_cell BK241.out 1).trans rfl; have hcz7_2 : w6.cell? ⟨gb241, 2, none⟩ = some (.bool a0_2) := (blk_cell BK241.out 2).trans rfl; have hcz7_3 : w6.cell? ⟨gb241, 3, none⟩ = some (.bool a0_3) := (blk_cell BK241.out 3).trans rfl; have hcz7_4 : w6.cell? ⟨gb241, 4, none⟩ = some (.int .i64 a0_4) := (blk_cell BK241.out 4).trans rfl; have hcz7_5 : w6.cell? ⟨gb241, 5, none⟩ = some (.int .i64 a0_5) := (blk_cell BK241.out 5).trans rfl; have hcz7_6 : w6.cell? ⟨gb241, 6, none⟩ = some (.int .i64 a0_6) := (blk_cell BK241.out 6).trans rfl; have hcz7_7 : w6.cell? ⟨gb241, 7, none⟩ = some (.int .i64 a0_7) := (blk_cell BK241.out 7).trans rfl; have hcz7_8 : w6.cell? ⟨gb241, 8, none⟩ = some (.int .i64 a0_8) := (blk_cell BK241.out 8).trans rfl; have hcz7_9 : w6.cell? ⟨gb241, 9, none⟩ = some (.int .i64 a0_9) := (blk_cell BK241.out 9).trans rfl; have hfz7_0 := blk_frozen BK241.out 0; have hfz7_1 := blk_frozen BK241.out 1; have hfz7_2 := blk_frozen BK241.out 2; have hfz7_3 := blk_frozen BK241.out 3; have hfz7_4 := blk_frozen BK241.out 4; have hfz7_5 := blk_frozen BK241.out 5; have hfz7_6 := blk_frozen BK241.out 6; have hfz7_7 := blk_frozen BK241.out 7; have hfz7_8 := blk_frozen BK241.out 8; have hfz7_9 := blk_frozen BK241.out 9) | (go_at_call 62; (with_reducible refine (miradorref13_down.calls (Go.bits .and .i64 (a1 / 65536) 255) a0_4 a0_7 t242 _ A3.out).mono ?_); rintro e w' ⟨rfl, ⟨nd, rfl⟩⟩; (try first | exact ⟨rfl, _, World.drewN_drewN _ _ _⟩ | exact ⟨rfl, _, Eq.trans (World.drewN_drewN _ _ _) (congrArg (World.drewN _) (Nat.add_assoc _ _ _))⟩)) | (go_at_call 62; (with_reducible refine (miradorref13_down.calls (Go.bits .and .i64 (a1 / 256) 255) a0_5 a0_8 t243 _ A4.out).mono ?_); rintro e w' ⟨rfl, ⟨nd, rfl⟩⟩; (try first | exact ⟨rfl, _, World.drewN_drewN _ _ _⟩ | exact ⟨rfl, _, Eq.trans (World.drewN_drewN _ _ _) (congrArg (World.drewN _) (Nat.add_assoc _ _ _))⟩)) | (go_at_call 62; (with_reducible refine (miradorref13_down.calls (Go.bits .and .i64 a1 255) a0_6 a0_9 t244 _ A5.out).mono ?_); rintro e w' ⟨rfl, ⟨nd, rfl⟩⟩; (try first | exact ⟨rfl, _, World.drewN_drewN _ _ _⟩ | exact ⟨rfl, _, Eq.trans (World.drewN_drewN _ _ _) (congrArg (World.drewN _) (Nat.add_assoc _ _ _))⟩))))
  go_ret
  exact ⟨by first | rfl | (simp [errW_none, errW_some] <;> rfl) | (simp [*, errW_none, errW_some] <;> rfl), by repeat (first | (with_reducible first | exact HB.out | apply below_alloc | apply pw_below_drewN | apply below_drew1 | refine below_set ?_ GE241.out) | exact HB.out)⟩

/-! ### miradorref16_Values: function 18 -/
def miradorref16_Values.l0 : Nat → List Int → List Int → Int → Int → Int → Bool → Bool → Int → Int → Int → Int → Int → Int → Option (List Int)
  | 0, _, _, _, _, _, _, _, _, _, _, _, _, _ => none
  | k + 1, x1, x5, x6, x246000, x246001, x246002, x246003, x246004, x246005, x246006, x246007, x246008, x246009 => if x6 < (x1.length : Int) then (if 0 ≤ x6 then ((miradorref13_Value.f x246000 x246001 x246002 x246003 x246004 x246005 x246006 x246007 x246008 x246009 (rd x1 x6)).bind fun t247 => (if x5.length < 17592186044416 then (miradorref16_Values.l0 k x1 (x5 ++ [t247]) (wrap64 (x6 + 1)) x246000 x246001 x246002 x246003 x246004 x246005 x246006 x246007 x246008 x246009) else (none))) else (none)) else (some x5)
def miradorref16_Values.f (k : Nat) (a0_0 : Int) (a0_1 : Int) (a0_2 : Bool) (a0_3 : Bool) (a0_4 : Int) (a0_5 : Int) (a0_6 : Int) (a0_7 : Int) (a0_8 : Int) (a0_9 : Int) (l1 : List Int) : Option (List Int) := miradorref16_Values.l0 k l1 ([] : List Int) 0 a0_0 a0_1 a0_2 a0_3 a0_4 a0_5 a0_6 a0_7 a0_8 a0_9
theorem miradorref16_Values.mono_l : ∀ k, (∀ y0 y1 y2 y3 y4 y5 y6 y7 y8 y9 y10 y11 y12, LeO (miradorref16_Values.l0 k y0 y1 y2 y3 y4 y5 y6 y7 y8 y9 y10 y11 y12) (miradorref16_Values.l0 (k + 1) y0 y1 y2 y3 y4 y5 y6 y7 y8 y9 y10 y11 y12))
  | 0 => fun _ _ _ _ _ _ _ _ _ _ _ _ _ r h => by simp [miradorref16_Values.l0] at h
  | k + 1 => by
    have ih0 := miradorref16_Values.mono_l k
    · intro y0 y1 y2 y3 y4 y5 y6 y7 y8 y9 y10 y11 y12
      unfold miradorref16_Values.l0
      repeat' first
      | (with_reducible exact ih0 _ _ _ _ _ _ _ _ _ _ _ _ _)
      | (with_reducible exact LeO.refl _)
      | (with_reducible exact LeO.none _)
      | (with_reducible refine LeO.ite ?_ ?_)
      | (with_reducible refine LeO.bind ?_ (fun _ => ?_))
      | exact ih0 _ _ _ _ _ _ _ _ _ _ _ _ _
      | exact LeO.none _
      | refine LeO.ite ?_ ?_
      | refine LeO.bind ?_ (fun _ => ?_)
theorem miradorref16_Values.mono : ∀ a0 a1 a2 a3 a4 a5 a6 a7 a8 a9 a10 k, LeO (miradorref16_Values.f k a0 a1 a2 a3 a4 a5 a6 a7 a8 a9 a10) (miradorref16_Values.f (k + 1) a0 a1 a2 a3 a4 a5 a6 a7 a8 a9 a10) := by
  intro a0 a1 a2 a3 a4 a5 a6 a7 a8 a9 a10 k
  have ih0 := miradorref16_Values.mono_l k
  unfold miradorref16_Values.f
  repeat' first
      | (with_reducible exact ih0 _ _ _ _ _ _ _ _ _ _ _ _ _)
      | (with_reducible exact LeO.refl _)
      | (with_reducible exact LeO.none _)
      | (with_reducible refine LeO.ite ?_ ?_)
      | (with_reducible refine LeO.bind ?_ (fun _ => ?_))
      | exact ih0 _ _ _ _ _ _ _ _ _ _ _ _ _
      | exact LeO.none _
      | refine LeO.ite ?_ ?_
      | refine LeO.bind ?_ (fun _ => ?_)
def miradorref16_Values.T5 : Bool × List (List Nat × List Nat) := (true, [([], []), ([], []), ([], []), ([], []), ([2, 3], [2, 3]), ([4], [4]), ([1, 5], [1, 5]), ([6], [6]), ([0, 7, 6], [0, 7]), ([8, 8, 0, 1, 2, 3, 4, 5, 6, 7, 8], [0, 8])])
def miradorref16_Values.B5 : List Nat := [0, 0, 0, 0, 12, 28, 62, 126, 255, 511]
theorem miradorref16_Values.tab5 : rtab .any (opsOf Try.f18 5) = miradorref16_Values.T5 := by kernel_rfl
theorem miradorref16_Values.bits5 : waitsOk miradorref16_Values.T5.2 miradorref16_Values.B5 = true := by kernel_rfl
set_option maxHeartbeats 8000000 in
set_option maxRecDepth 100000 in
theorem miradorref16_Values.calls (k : Nat) (a0_0 : Int) (a0_1 : Int) (a0_2 : Bool) (a0_3 : Bool) (a0_4 : Int) (a0_5 : Int) (a0_6 : Int) (a0_7 : Int) (a0_8 : Int) (a0_9 : Int) (A1 : Option Addr) (c1 : Nat) (l1 : List Int) (r : List Int) (w : World) (hr1 : Kd.C (Kd.int .i64) w A1 l1.length l1) (hc1 : l1.length ≤ c1) (h : miradorref16_Values.f k a0_0 a0_1 a0_2 a0_3 a0_4 a0_5 a0_6 a0_7 a0_8 a0_9 l1 = some r) :
    Calls Try.prog 18 #[.agg #[.int .i64 a0_0, .int .i64 a0_1, .bool a0_2, .bool a0_3, .int .i64 a0_4, .int .i64 a0_5, .int .i64 a0_6, .int .i64 a0_7, .int .i64 a0_8, .int .i64 a0_9], .slice A1 l1.length c1] w fun e w' => ∃ v0_ : Value, e = .returned (v0_) ∧ Kd.R (Kd.int .i64) 3 w' w.heap.size (fun _ => True) v0_ r ∧ Below w.heap.size w w' := by
  have hu23 := Try.underlying23
  have HR1 := Aside0.mk hr1
  have HC1 := Aside0.mk hc1
  clear hr1 hc1
  have HB := Aside0.mk (Below.refl w.heap.size w)
  have H : (miradorref16_Values.l0 k l1 ([] : List Int) 0 a0_0 a0_1 a0_2 a0_3 a0_4 a0_5 a0_6 a0_7 a0_8 a0_9) = some r := h
  clear h
  have H' := Aside0.mk H
  clear H
  go_enter Try.func18, Try.ntmps18
  go_wp2_with (first | ((with_reducible refine gate_dst (N := 2) rfl ?_); refine box_event ?hg (N := 2) ?hd (cs := #[.int .i64 a0_0, .int .i64 a0_1, .bool a0_2, .bool a0_3, .int .i64 a0_4, .int .i64 a0_5, .int .i64 a0_6, .int .i64 a0_7, .int .i64 a0_8, .int .i64 a0_9]) (t := 23) ?hr ?_; (case hd => rfl); (case hg => rfl); (case hr => first | (go_simp; done) | (go_simp; rfl)); intro gb245 hg w3 hbox hb; have n0_ := Aside0.mk (below_step (by repeat (first | (with_reducible first | exact HB.out | apply below_alloc | apply pw_below_drewN | apply below_drew1) | exact HB.out)) hb); have n1_ := Aside0.mk (hbox); have n2_ := Aside0.mk ((by rw [hg]; exact (below_size (by repeat (first | (with_reducible first | exact HB.out | apply below_alloc | apply pw_below_drewN | apply below_drew1) | exact HB.out))) : w.heap.size ≤ gb245)); have n3_ := Aside0.mk ((by rw [hg]; exact (below_size (by repeat (first | (with_reducible first | exact HB.out | apply below_alloc | apply pw_below_drewN | apply below_drew1) | exact HB.out))) : w.heap.size ≤ gb245)); clear HB; have HB := n0_; have BK245 := n1_; have GW245 := n2_; have GE245 := n3_; clear n0_ n1_ n2_ n3_; clear hb hbox hg))
  go_loopg [5, 6] k (fun kq v5 v6 w' => ∃ (x5_1 : List Int) (x6_1 : Int), v6 = .int .i64 x6_1 ∧ Aside0 (miradorref16_Values.l0 kq l1 x5_1 x6_1 a0_0 a0_1 a0_2 a0_3 a0_4 a0_5 a0_6 a0_7 a0_8 a0_9 = some r) ∧ Aside0 (kq ≤ k) ∧ Aside0 (Kd.R (Kd.int .i64) 3 w' w.heap.size (fun _ => True) v5 x5_1) ∧ Aside0 (w'.heap[gb245]? = some (.cells #[.int .i64 a0_0, .int .i64 a0_1, .bool a0_2, .bool a0_3, .int .i64 a0_4, .int .i64 a0_5, .int .i64 a0_6, .int .i64 a0_7, .int .i64 a0_8, .int .i64 a0_9] 23 (0, 0))) ∧ Aside0 (Below w.heap.size w w'))
  case atStart => exact ⟨(([] : List Int)), (0), (by first | rfl | (simp; done) | (simp [*]; done)), H', ⟨Nat.le_refl _⟩, ⟨by first | exact Kd.R_nil _ _ _ _ _ | exact Kd.N_nil _ _ _ _ _ | exact Kd.V_nil _ _ _ _ _ | exact Kd.Q_nil _ _ _ _ _ | exact Kd.S_nil _ _ _ _ _⟩, ⟨by (with_reducible repeat (first | refine blk_drewN ?_ _ | refine blk_drew ?_ | refine blk_alloc ?_ _)); exact BK245.out⟩, ⟨by repeat (first | (with_reducible first | exact HB.out | apply below_alloc | apply pw_below_drewN | apply below_drew1 | refine below_set ?_ GE245.out) | exact HB.out)⟩⟩
  case round =>
    clear H'
    try clear c1
    try clear p2
    obtain ⟨x5_1, x6_1, rfl, HA, HK1, HO_5, BK245, HB⟩ := hrel
    cases gk with
    | zero => exact absurd HA.out (by simp [miradorref16_Values.l0])
    | succ k1 =>
      have H := HA.out
      clear HA
      simp only [miradorref16_Values.l0] at H
      by_cases c4 : x6_1 < (l1.length : Int)
      · rw [if_pos c4] at H
        have c4b0 : decide (x6_1 < (l1.length : Int)) = true := decide_eq_true c4
        clear c4
        by_cases c5 : 0 ≤ x6_1
        · rw [if_pos c5] at H
          have c5b0 : decide (0 ≤ x6_1) = true := decide_eq_true c5
          clear c5
          replace H := Option.bind_eq_some_iff.mp H
          obtain ⟨t247, A60, H⟩ := H
          replace H : (if x5_1.length < 17592186044416 then (miradorref16_Values.l0 k1 l1 (x5_1 ++ [t247]) (wrap64 (x6_1 + 1)) a0_0 a0_1 a0_2 a0_3 a0_4 a0_5 a0_6 a0_7 a0_8 a0_9) else (none)) = some r := H
          have A6 := Aside0.mk A60
          clear A60
          by_cases c7 : x5_1.length < 17592186044416
          · rw [if_pos c7] at H
            have LMc7 := Aside0.mk c7
            clear c7
            obtain ⟨y248, hy248⟩ : ∃ y_ : List Int, y_ = (x5_1 ++ [t247]) := ⟨_, rfl⟩
            replace H : (miradorref16_Values.l0 k1 l1 y248 (wrap64 (x6_1 + 1)) a0_0 a0_1 a0_2 a0_3 a0_4 a0_5 a0_6 a0_7 a0_8 a0_9) = some r := by first | (rw [hy248]; with_reducible exact H) | (have H2_ := (Option.bind_some _ _).symm.trans H; rw [hy248]; with_reducible exact H2_) | (have H2_ := (Option.bind_some _ _).symm.trans H; with_reducible exact H2_) | with_reducible exact H | (rw [hy248]; exact H) | exact H
            have Ny248 := Aside0.mk hy248
            clear hy248
            have H' := Aside0.mk H
            clear H
            try go_wp2
            have n0_ := Aside0.mk (Kd.R_drew HO_5.out)
            have n1_ := Aside0.mk (blk_drew BK245.out)
            have n2_ := Aside0.mk (below_drew1 HB.out)
            clear HO_5
            clear BK245
            clear HB
            have HO_5 := n0_
            have BK245 := n1_
            have HB := n2_
            clear n0_ n1_ n2_
            have p246 : 0 ≤ (x6_1 : Int) := of_decide_eq_true (by first | (with_reducible assumption) | assumption)
            have q246 : x6_1 < (l1.length : Int) := of_decide_eq_true (by first | (with_reducible assumption) | assumption)
            obtain ⟨ad246, e246, hx246_0⟩ := Kd.at_int HR1.out x6_1 p246 q246
            have hw246_0 := hx246_0
            cases e246
            replace hx246_0 := (HB.out.cell (World.block_lt_of_cell? w _ hx246_0)).trans hx246_0
            replace p246 := eq_true p246
            replace q246 := eq_true q246
            refine start_ (n := 10) (S := fun w' => w'.cell? ⟨gb245, 0, none⟩ = some (.int .i64 a0_0) ∧ w'.cell? ⟨gb245, 1, none⟩ = some (.int .i64 a0_1) ∧ w'.cell? ⟨gb245, 2, none⟩ = some (.bool a0_2) ∧ w'.cell? ⟨gb245, 3, none⟩ = some (.bool a0_3) ∧ w'.cell? ⟨gb245, 4, none⟩ = some (.int .i64 a0_4) ∧ w'.cell? ⟨gb245, 5, none⟩ = some (.int .i64 a0_5) ∧ w'.cell? ⟨gb245, 6, none⟩ = some (.int .i64 a0_6) ∧ w'.cell? ⟨gb245, 7, none⟩ = some (.int .i64 a0_7) ∧ w'.cell? ⟨gb245, 8, none⟩ = some (.int .i64 a0_8) ∧ w'.cell? ⟨gb245, 9, none⟩ = some (.int .i64 a0_9) ∧ w'.cell? (ad246.add (x6_1).toNat) = some (.int .i64 (rd l1 x6_1))) (ds := []) #[false, false, false, false, false, false, false, false, false, false] (by kernel_rfl) rfl rfl ⟨(blk_cell BK245.out 0).trans rfl, (blk_cell BK245.out 1).trans rfl, (blk_cell BK245.out 2).trans rfl, (blk_cell BK245.out 3).trans rfl, (blk_cell BK245.out 4).trans rfl, (blk_cell BK245.out 5).trans rfl, (blk_cell BK245.out 6).trans rfl, (blk_cell BK245.out 7).trans rfl, (blk_cell BK245.out 8).trans rfl, (blk_cell BK245.out 9).trans rfl, ((HB.out.cell (World.block_lt_of_cell? w _ hw246_0)).trans hw246_0)⟩ (fun hHeld => ?_); refine with_tabW miradorref16_Values.tab5 miradorref16_Values.bits5 (fun HT_ HW_ => ?_)
            generalize wr.drew = w8 at HO_5 BK245 HB hx246_0 hHeld ⊢
            refine pure_ (i := 0) (N := some 13) (v := ?_) (a' := ?_) #[true, false, false, false, false, false, false, false, false, false] rfl rfl (any_of HT_.out (by kernel_rfl)) (fun _ _ _ h => h) (Or.inl ⟨by rfl, ?_⟩) ?_ ?_
            rotate_left
            · intro w'
              go_simp
              with_reducible rfl
            rotate_left
            · simp only [Act.put, List.setIfInBounds_toArray, List.set_cons_zero, List.set_cons_succ, i64_w, i32_w]
              rfl
            refine pure_ (i := 2) (N := some 15) (v := ?_) (a' := ?_) #[true, false, true, false, false, false, false, false, false, false] rfl rfl (any_of HT_.out (by kernel_rfl)) (fun _ _ _ h => h) (Or.inl ⟨by rfl, ?_⟩) ?_ ?_
            rotate_left
            · intro w'
              go_simp
              with_reducible rfl
            rotate_left
            · simp only [Act.put, List.setIfInBounds_toArray, List.set_cons_zero, List.set_cons_succ, i64_w, i32_w]
              rfl
            refine pure_ (i := 3) (N := some 16) (v := ?_) (a' := ?_) #[true, false, true, true, false, false, false, false, false, false] rfl rfl (any_of HT_.out (by kernel_rfl)) (fun _ _ _ h => h) (Or.inl ⟨by rfl, ?_⟩) ?_ ?_
            rotate_left
            · intro w'
              go_simp
              with_reducible rfl
            rotate_left
            · simp only [Act.put, List.setIfInBounds_toArray, List.set_cons_zero, List.set_cons_succ, i64_w, i32_w]
              rfl
            refine pure_ (i := 4) (N := some 17) (v := ?_) (a' := ?_) #[true, false, true, true, true, false, false, false, false, false] rfl rfl (any_of HT_.out (by kernel_rfl)) (fun _ _ _ h => h) (Or.inl ⟨by rfl, ?_⟩) ?_ ?_
            rotate_left
            · intro w'
              go_simp
              with_reducible rfl
            rotate_left
            · simp only [Act.put, List.setIfInBounds_toArray, List.set_cons_zero, List.set_cons_succ, i64_w, i32_w]
              rfl
            refine take_ (i := 1) (N := some 14) (v := ?_) (a' := ?_) #[true, true, true, true, true, false, false, false, false, false] rfl rfl (take_ofW HT_.out HW_.out (by kernel_rfl)) (fun _ _ _ h => h) (Or.inl ⟨by rfl, ?_⟩) hHeld ?_ ?_
            rotate_left
            · rintro w' ⟨s0, s1, s2, s3, s4, s5, s6, s7, s8, s9, s10⟩
              go_simp
              with_reducible rfl
            rotate_left
            · simp only [Act.put, List.setIfInBounds_toArray, List.set_cons_zero, List.set_cons_succ, i64_w, i32_w]
              rfl
            refine take_ (i := 5) (N := some 18) (v := ?_) (a' := ?_) #[true, true, true, true, true, true, false, false, false, false] rfl rfl (take_ofW HT_.out HW_.out (by kernel_rfl)) (fun _ _ _ h => h) (Or.inl ⟨by rfl, ?_⟩) hHeld ?_ ?_
            rotate_left
            · rintro w' ⟨s0, s1, s2, s3, s4, s5, s6, s7, s8, s9, s10⟩
              go_simp
              with_reducible rfl
            rotate_left
            · simp only [Act.put, List.setIfInBounds_toArray, List.set_cons_zero, List.set_cons_succ, i64_w, i32_w]
              rfl
            refine one_ (i := 6) (N := some 19) #[true, true, true, true, true, true, true, false, false, false] rfl rfl (one_of HT_.out (by kernel_rfl)) (by decide) (fun K hK => ?_)
            refine goes_ Try.func44 (by kernel_rfl) rfl #[.agg #[.int .i64 a0_0, .int .i64 a0_1, .bool a0_2, .bool a0_3, .int .i64 a0_4, .int .i64 a0_5, .int .i64 a0_6, .int .i64 a0_7, .int .i64 a0_8, .int .i64 a0_9], .int .i64 (rd l1 x6_1)] (by rfl) rfl rfl (by (try simp only [List.map_toArray, List.map_cons, List.map_nil]); first | done | rfl | (simp only [List.length_drop, List.length_take]; rfl)) ?_
            with_reducible refine (miradorref13_Value.calls a0_0 a0_1 a0_2 a0_3 a0_4 a0_5 a0_6 a0_7 a0_8 a0_9 (rd l1 x6_1) t247 _ A6.out).mono ?_
            rintro e w9 ⟨rfl, hb⟩
            refine ⟨_, rfl, ?_⟩
            have n0_ := Aside0.mk (Kd.R_below (by (with_reducible repeat (first | apply Kd.R_alloc | apply Kd.R_drewN | apply Kd.R_drew)); exact HO_5.out) hb)
            have n1_ := Aside0.mk (blk_below (g := gb245) (o := .cells #[.int .i64 a0_0, .int .i64 a0_1, .bool a0_2, .bool a0_3, .int .i64 a0_4, .int .i64 a0_5, .int .i64 a0_6, .int .i64 a0_7, .int .i64 a0_8, .int .i64 a0_9] 23 (0, 0)) (by (with_reducible repeat (first | refine blk_drewN ?_ _ | refine blk_drew ?_ | refine blk_alloc ?_ _)); exact BK245.out) hb)
            have n2_ := Aside0.mk (below_step (by repeat (first | (with_reducible first | exact HB.out | apply below_alloc | apply pw_below_drewN | apply below_drew1 | refine below_set ?_ GE245.out) | exact HB.out)) hb)
            clear HO_5
            clear BK245
            clear HB
            have HO_5 := n0_
            have BK245 := n1_
            have HB := n2_
            clear n0_ n1_ n2_
            (try clear hb)
            (try clear hb2)
            (try clear hk)
            (try clear hi)
            refine hK.out _ _ ⟨(blk_cell BK245.out 0).trans rfl, (blk_cell BK245.out 1).trans rfl, (blk_cell BK245.out 2).trans rfl, (blk_cell BK245.out 3).trans rfl, (blk_cell BK245.out 4).trans rfl, (blk_cell BK245.out 5).trans rfl, (blk_cell BK245.out 6).trans rfl, (blk_cell BK245.out 7).trans rfl, (blk_cell BK245.out 8).trans rfl, (blk_cell BK245.out 9).trans rfl, ((HB.out.cell (World.block_lt_of_cell? w _ hw246_0)).trans hw246_0)⟩ (fun hHeld => ?_)
            clear hK K
            refine norm_ (a' := ?_) ?_ ?_
            rotate_left
            · show Act.put _ (some 19) _ = _
              simp only [Act.put, List.setIfInBounds_toArray, List.set_cons_zero, List.set_cons_succ, i64_w, i32_w]
              rfl
            refine one_ (i := 7) (N := some 20) #[true, true, true, true, true, true, true, true, false, false] rfl rfl (one_of HT_.out (by kernel_rfl)) (by decide) (fun K hK => ?_)
            refine value_ (w1 := ?_) (v := ?_) (by rfl) rfl ?_ ?_
            rotate_left 2
            · go_simp
              constructor
              · rfl
              · rfl
            refine hK.out _ _ ⟨(blk_cell (blk_alloc BK245.out _) 0).trans rfl, (blk_cell (blk_alloc BK245.out _) 1).trans rfl, (blk_cell (blk_alloc BK245.out _) 2).trans rfl, (blk_cell (blk_alloc BK245.out _) 3).trans rfl, (blk_cell (blk_alloc BK245.out _) 4).trans rfl, (blk_cell (blk_alloc BK245.out _) 5).trans rfl, (blk_cell (blk_alloc BK245.out _) 6).trans rfl, (blk_cell (blk_alloc BK245.out _) 7).trans rfl, (blk_cell (blk_alloc BK245.out _) 8).trans rfl, (blk_cell (blk_alloc BK245.out _) 9).trans rfl, (World.cell?_alloc_lt _ _ _ (World.block_lt_of_cell? _ _ (((HB.out.cell (World.block_lt_of_cell? w _ hw246_0)).trans hw246_0)))).trans (((HB.out.cell (World.block_lt_of_cell? w _ hw246_0)).trans hw246_0))⟩ (fun hHeld => ?_)
            clear hK K
            refine norm_ (a' := ?_) ?_ ?_
            rotate_left
            · show Act.put _ (some 20) _ = _
              simp only [Act.put, List.setIfInBounds_toArray, List.set_cons_zero, List.set_cons_succ, i64_w, i32_w]
              rfl
            refine one_ (i := 8) (N := some 21) #[true, true, true, true, true, true, true, true, true, false] rfl rfl (one_of HT_.out (by kernel_rfl)) (by decide) (fun K hK => ?_)
            refine Kd.R_append_step (Kd.int .i64) (w0 := w) w.heap.size (by rfl) (.tmp 13) (.tmp 20) 24 3 (.int .i64 0) 8 rfl Try.underlying24 info3 rfl (by decide) (by omega) u5 x5_1 t247 [.int .i64 t247] (fun _ => True) (fun _ => False) rfl rfl ?aP (fun _ hk => hk.elim) ?aF ?aO ?aB ?aS ?aL ?_
            (case aP => exact rfl)
            (case aB => exact (by repeat (first | (with_reducible first | exact HB.out | apply below_alloc | apply pw_below_drewN | apply below_drew1 | refine below_set ?_ GE245.out) | exact HB.out)))
            (case aF => exact (fun _ _ => trivial))
            (case aO => exact (by (with_reducible repeat (first | apply Kd.R_alloc | apply Kd.R_drewN | apply Kd.R_drew)); exact HO_5.out))
            (case aS => exact (below_size (by repeat (first | (with_reducible first | exact HB.out | apply below_alloc | apply pw_below_drewN | apply below_drew1 | refine below_set ?_ GE245.out) | exact HB.out))))
            (case aL => have := LMc7.out; omega)
            intro v249 w10 ho hb hg hat
            rw [← Ny248.out] at ho
            have n0_ := Aside0.mk (blk_grown (g := gb245) (o := .cells #[.int .i64 a0_0, .int .i64 a0_1, .bool a0_2, .bool a0_3, .int .i64 a0_4, .int .i64 a0_5, .int .i64 a0_6, .int .i64 a0_7, .int .i64 a0_8, .int .i64 a0_9] 23 (0, 0)) (by (with_reducible repeat (first | refine blk_drewN ?_ _ | refine blk_drew ?_ | refine blk_alloc ?_ _)); exact BK245.out) hg (Kd.R_ne HO_5.out BK245.out (by decide)))
            have n1_ := Aside0.mk (hb)
            have n2_ := Aside0.mk (ho)
            clear BK245
            clear HB
            clear HO_5
            have BK245 := n0_
            have HB := n1_
            have HO250 := n2_
            clear n0_ n1_ n2_
            clear ho hb hg hat
            refine hK.out _ _ ⟨(blk_cell BK245.out 0).trans rfl, (blk_cell BK245.out 1).trans rfl, (blk_cell BK245.out 2).trans rfl, (blk_cell BK245.out 3).trans rfl, (blk_cell BK245.out 4).trans rfl, (blk_cell BK245.out 5).trans rfl, (blk_cell BK245.out 6).trans rfl, (blk_cell BK245.out 7).trans rfl, (blk_cell BK245.out 8).trans rfl, (blk_cell BK245.out 9).trans rfl, ((HB.out.cell (World.block_lt_of_cell? w _ hw246_0)).trans hw246_0)⟩ (fun hHeld => ?_)
            clear hK K
            refine norm_ (a' := ?_) ?_ ?_
            rotate_left
            · show Act.put _ (some 21) _ = _
              simp only [Act.put, List.setIfInBounds_toArray, List.set_cons_zero, List.set_cons_succ, i64_w, i32_w]
              rfl
            refine pure_ (i := 9) (N := some 5) (v := ?_) (a' := ?_) #[true, true, true, true, true, true, true, true, true, true] rfl rfl (any_of HT_.out (by kernel_rfl)) (fun _ _ _ h => h) (Or.inl ⟨by rfl, ?_⟩) ?_ ?_
            rotate_left
            · intro w'
              go_simp
              with_reducible rfl
            rotate_left
            · simp only [Act.put, List.setIfInBounds_toArray, List.set_cons_zero, List.set_cons_succ, i64_w, i32_w]
              rfl
            refine done_ (done_of HT_.out (by kernel_rfl)) ?_
            try go_wp2
            go_roundg k1
            case measure => have := HK1.out; omega
            case rel => exact ⟨(y248), (wrap64 (x6_1 + 1)), (by first | rfl | (simp; done) | (simp [*]; done)), H', ⟨by have := HK1.out; omega⟩, ⟨by (with_reducible repeat (first | apply Kd.R_alloc | apply Kd.R_drewN | apply Kd.R_drew)); exact HO250.out⟩, ⟨by (with_reducible repeat (first | refine blk_drewN ?_ _ | refine blk_drew ?_ | refine blk_alloc ?_ _)); exact BK245.out⟩, ⟨by repeat (first | (with_reducible first | exact HB.out | apply below_alloc | apply pw_below_drewN | apply below_drew1 | refine below_set ?_ GE245.out) | exact HB.out)⟩⟩
          · rw [if_neg c7] at H
            exact absurd H (by simp)
        · rw [if_neg c5] at H
          exact absurd H (by simp)
      · rw [if_neg c4] at H
        have c4b0 : decide (x6_1 < (l1.length : Int)) = false := decide_eq_false c4
        clear c4
        obtain rfl := Option.some.inj H
        go_wp2
        go_ret
        exact ⟨_, by first | rfl | (simp [errW_none, errW_some] <;> rfl) | (simp [*, errW_none, errW_some] <;> rfl), by (with_reducible repeat (first | apply Kd.R_alloc | apply Kd.R_drewN | apply Kd.R_drew)); exact HO_5.out, by repeat (first | (with_reducible first | exact HB.out | apply below_alloc | apply pw_below_drewN | apply below_drew1 | refine below_set ?_ GE245.out) | exact HB.out)⟩

/-! ### miradorref13_put: function 63 -/
def miradorref13_put.l0 : Nat → Bool → Int → Int → ByteArray → Int → Option (ByteArray)
  | 0, _, _, _, _, _ => none
  | k + 1, x0, x1, x2, x7, x8 => if x8 < x1 then ((some (([(Go.bits .and .i64 x2 255) % 256] : List Int) : List Int)).bind fun y251 => (if x7.size + (strOfNums y251).size ≤ 9223372036854775807 then (miradorref13_put.l0 k x0 x1 (x2 / 256) (x7 ++ (strOfNums y251)) (wrap64 (x8 + 1))) else (none))) else (if x0 = true then ((miradorref01_Turned.f k x7).bind fun t254 => (some t254)) else (some x7))
def miradorref13_put.f (k : Nat) (a0 : Bool) (a1 : Int) (a2 : Int) : Option (ByteArray) := miradorref13_put.l0 k a0 a1 a2 (⟨#[]⟩ : ByteArray) 0
theorem miradorref13_put.mono_l : ∀ k, (∀ y0 y1 y2 y3 y4, LeO (miradorref13_put.l0 k y0 y1 y2 y3 y4) (miradorref13_put.l0 (k + 1) y0 y1 y2 y3 y4))
  | 0 => fun _ _ _ _ _ r h => by simp [miradorref13_put.l0] at h
  | k + 1 => by
    have ih0 := miradorref13_put.mono_l k
    · intro y0 y1 y2 y3 y4
      unfold miradorref13_put.l0
      repeat' first
      | (with_reducible exact ih0 _ _ _ _ _)
      | (with_reducible exact miradorref01_Turned.mono _ _)
      | (with_reducible exact LeO.refl _)
      | (with_reducible exact LeO.none _)
      | (with_reducible refine LeO.ite ?_ ?_)
      | (with_reducible refine LeO.bind ?_ (fun _ => ?_))
      | exact ih0 _ _ _ _ _
      | exact miradorref01_Turned.mono _ _
      | exact LeO.none _
      | refine LeO.ite ?_ ?_
      | refine LeO.bind ?_ (fun _ => ?_)
theorem miradorref13_put.mono : ∀ a0 a1 a2 k, LeO (miradorref13_put.f k a0 a1 a2) (miradorref13_put.f (k + 1) a0 a1 a2) := by
  intro a0 a1 a2 k
  have ih0 := miradorref13_put.mono_l k
  unfold miradorref13_put.f
  repeat' first
      | (with_reducible exact ih0 _ _ _ _ _)
      | (with_reducible exact miradorref01_Turned.mono _ _)
      | (with_reducible exact LeO.refl _)
      | (with_reducible exact LeO.none _)
      | (with_reducible refine LeO.ite ?_ ?_)
      | (with_reducible refine LeO.bind ?_ (fun _ => ?_))
      | exact ih0 _ _ _ _ _
      | exact miradorref01_Turned.mono _ _
      | exact LeO.none _
      | refine LeO.ite ?_ ?_
      | refine LeO.bind ?_ (fun _ => ?_)
set_option maxHeartbeats 8000000 in
set_option maxRecDepth 100000 in
theorem miradorref13_put.calls (k : Nat) (a0 : Bool) (a1 : Int) (a2 : Int) (r : ByteArray) (w : World) (h : miradorref13_put.f k a0 a1 a2 = some r) :
    Calls Try.prog 63 #[.bool a0, .int .i64 a1, .int .i64 a2] w fun e w' => e = .returned (.string r) ∧ Below w.heap.size w w' := by
  have HB := Aside0.mk (Below.refl w.heap.size w)
  have H : (miradorref13_put.l0 k a0 a1 a2 (⟨#[]⟩ : ByteArray) 0) = some r := h
  clear h
  have H' := Aside0.mk H
  clear H
  go_enter Try.func63, Try.ntmps63
  go_wp2
  go_loopg [2, 7, 8] k (fun kq v2 v7 v8 w' => ∃ (x2_1 : Int) (x7_1 : ByteArray) (x8_1 : Int), v2 = .int .i64 x2_1 ∧ v7 = .string x7_1 ∧ v8 = .int .i64 x8_1 ∧ Aside0 (miradorref13_put.l0 kq a0 a1 x2_1 x7_1 x8_1 = some r) ∧ Aside0 (kq ≤ k) ∧ Aside0 (Below w.heap.size w w'))
  case atStart => exact ⟨(a2), ((⟨#[]⟩ : ByteArray)), (0), (by first | rfl | (simp; done) | (simp [*]; done)), (by first | rfl | (simp; done) | (simp [*]; done)), (by first | rfl | (simp; done) | (simp [*]; done)), H', ⟨Nat.le_refl _⟩, ⟨by repeat (first | (with_reducible first | exact HB.out | apply below_alloc | apply pw_below_drewN | apply below_drew1) | exact HB.out)⟩⟩
  case round =>
    clear H'
    try clear p2
    obtain ⟨x2_1, x7_1, x8_1, rfl, rfl, rfl, HA, HK1, HB⟩ := hrel
    cases gk with
    | zero => exact absurd HA.out (by simp [miradorref13_put.l0])
    | succ k1 =>
      have H := HA.out
      clear HA
      simp only [miradorref13_put.l0] at H
      by_cases c4 : x8_1 < a1
      · rw [if_pos c4] at H
        have c4b0 : decide (x8_1 < a1) = true := decide_eq_true c4
        clear c4
        obtain ⟨y251, hy251⟩ : ∃ y_ : List Int, y_ = (([(Go.bits .and .i64 x2_1 255) % 256] : List Int)) := ⟨_, rfl⟩
        replace H : (if x7_1.size + (strOfNums y251).size ≤ 9223372036854775807 then (miradorref13_put.l0 k1 a0 a1 (x2_1 / 256) (x7_1 ++ (strOfNums y251)) (wrap64 (x8_1 + 1))) else (none)) = some r := by first | (rw [hy251]; with_reducible exact H) | (have H2_ := (Option.bind_some _ _).symm.trans H; rw [hy251]; with_reducible exact H2_) | (have H2_ := (Option.bind_some _ _).symm.trans H; with_reducible exact H2_) | with_reducible exact H | (rw [hy251]; exact H) | exact H
        have Ny251 := Aside0.mk hy251
        clear hy251
        by_cases c5 : x7_1.size + (strOfNums y251).size ≤ 9223372036854775807
        · rw [if_pos c5] at H
          have c5b0 := eq_true c5
          have c5b1 : decide (x7_1.size + (strOfNums y251).size ≤ 9223372036854775807) = true := decide_eq_true c5
          try have c5b2 : (9223372036854775807 < x7_1.size + (strOfNums y251).size) = False := eq_false (Nat.not_lt.2 c5)
          have H' := Aside0.mk H
          clear H
          go_wp2_with (first | ((with_reducible refine gate_dst (N := 18) rfl ?_); refine Kd.R_lit (Kd.int .u8) _ 5 ?hg (N := 18) ?hd (xs := ([(Go.bits .and .i64 x2_1 255) % 256] : List Int)) (inner := [.int .u8 ((Go.bits .and .i64 x2_1 255) % 256)]) (ok := fun _ => True) (okp := fun _ => True) ?hr ?hp (fun _ hk => hk) trivial (Below.refl _ _) (Nat.le_refl _) (by simp) ?_; (case hd => rfl); (case hg => rfl); (case hr => first | (go_simp; done) | (go_simp; rfl)); (case hp => exact (Reps.one (show Kd.M (Kd.int .u8) _ _ _ ((Go.bits .and .i64 x2_1 255) % 256) [.int .u8 ((Go.bits .and .i64 x2_1 255) % 256)] from rfl) (Reps.none _ _))); intro v252 w6 ho7 hb hg_ hnew_; clear hg_ hnew_; (first | rw [← Ny251.out] at ho7 | (simp only [Int.reduceToNat] at ho7; rw [← Ny251.out] at ho7)); have n0_ := Aside0.mk (Kd.R_lower ho7 (below_size (by repeat (first | (with_reducible first | exact HB.out | apply below_alloc | apply pw_below_drewN | apply below_drew1) | exact HB.out)))); have n1_ := Aside0.mk (below_step (by repeat (first | (with_reducible first | exact HB.out | apply below_alloc | apply pw_below_drewN | apply below_drew1) | exact HB.out)) hb); clear HB; have HO253 := n0_; have HB := n1_; clear n0_ n1_; clear hb ho7; have hcv8 := own_string (P := Try.prog) Try.underlying47 Try.underlying5 Try.underlying9 (Kd.own_of_R HO253.out)))
          go_roundg k1
          case measure => have := HK1.out; omega
          case rel => exact ⟨(x2_1 / 256), (x7_1 ++ (strOfNums y251)), (wrap64 (x8_1 + 1)), (by first | rfl | (simp; done) | (simp [*]; done)), (by first | rfl | (simp; done) | (simp [*]; done)), (by first | rfl | (simp; done) | (simp [*]; done)), H', ⟨by have := HK1.out; omega⟩, ⟨by repeat (first | (with_reducible first | exact HB.out | apply below_alloc | apply pw_below_drewN | apply below_drew1) | exact HB.out)⟩⟩
        · rw [if_neg c5] at H
          exact absurd H (by simp)
      · rw [if_neg c4] at H
        have c4b0 : decide (x8_1 < a1) = false := decide_eq_false c4
        clear c4
        by_cases c9 : a0 = true
        · subst c9
          have H1 : ((miradorref01_Turned.f k1 x7_1).bind fun t254 => (some t254)) = some r := by rw [if_pos rfl] at H; exact H
          clear H
          have H := H1
          clear H1
          replace H := Option.bind_eq_some_iff.mp H
          obtain ⟨t254, A100, H⟩ := H
          replace H : (some t254) = some r := H
          have A10 := Aside0.mk A100
          clear A100
          obtain rfl := Option.some.inj H
          go_wp2_with (first | ((with_reducible refine gate_callee (f := 71) rfl ?_); refine goesL_ (some 25) rfl rfl Try.func71 (by kernel_rfl) rfl #[.string x7_1] rfl (by (try simp only [List.map_toArray, List.map_cons, List.map_nil]); first | done | rfl | (simp only [List.length_drop, List.length_take]; rfl)) ?_; (with_reducible refine (miradorref01_Turned.calls k1 x7_1 t254 _ A10.out).mono ?_); rintro e w' ⟨rfl, ⟨nd, rfl⟩⟩; refine ⟨_, rfl, ?_⟩))
          go_ret
          exact ⟨by first | rfl | (simp [errW_none, errW_some] <;> rfl) | (simp [*, errW_none, errW_some] <;> rfl), by repeat (first | (with_reducible first | exact HB.out | apply below_alloc | apply pw_below_drewN | apply below_drew1) | exact HB.out)⟩
        · replace c9 := Bool.eq_false_iff.mpr c9
          subst c9
          have H1 : (some x7_1) = some r := by rw [if_neg (show ¬ (false = true) by decide)] at H; exact H
          clear H
          have H := H1
          clear H1
          obtain rfl := Option.some.inj H
          go_wp2
          go_ret
          exact ⟨by first | rfl | (simp [errW_none, errW_some] <;> rfl) | (simp [*, errW_none, errW_some] <;> rfl), by repeat (first | (with_reducible first | exact HB.out | apply below_alloc | apply pw_below_drewN | apply below_drew1) | exact HB.out)⟩

/-! ### miradorref13_Put: function 45 -/
def miradorref13_Put.f (k : Nat) (a0_0 : Int) (a0_1 : Int) (a0_2 : Bool) (a0_3 : Bool) (a0_4 : Int) (a0_5 : Int) (a0_6 : Int) (a0_7 : Int) (a0_8 : Int) (a0_9 : Int) (a1 : Int) : Option (ByteArray) := (miradorref13_put.f k a0_2 (wrap64 (Int.tdiv a0_0 8)) a1).bind fun t256 => (some t256)
theorem miradorref13_Put.mono : ∀ a0 a1 a2 a3 a4 a5 a6 a7 a8 a9 a10 k, LeO (miradorref13_Put.f k a0 a1 a2 a3 a4 a5 a6 a7 a8 a9 a10) (miradorref13_Put.f (k + 1) a0 a1 a2 a3 a4 a5 a6 a7 a8 a9 a10) := by
  intro a0 a1 a2 a3 a4 a5 a6 a7 a8 a9 a10 k
  unfold miradorref13_Put.f
  repeat' first
      | (with_reducible exact miradorref13_put.mono _ _ _ _)
      | (with_reducible exact LeO.refl _)
      | (with_reducible exact LeO.none _)
      | (with_reducible refine LeO.ite ?_ ?_)
      | (with_reducible refine LeO.bind ?_ (fun _ => ?_))
      | exact miradorref13_put.mono _ _ _ _
      | exact LeO.none _
      | refine LeO.ite ?_ ?_
      | refine LeO.bind ?_ (fun _ => ?_)
set_option maxHeartbeats 8000000 in
set_option maxRecDepth 100000 in
theorem miradorref13_Put.calls (k : Nat) (a0_0 : Int) (a0_1 : Int) (a0_2 : Bool) (a0_3 : Bool) (a0_4 : Int) (a0_5 : Int) (a0_6 : Int) (a0_7 : Int) (a0_8 : Int) (a0_9 : Int) (a1 : Int) (r : ByteArray) (w : World) (h : miradorref13_Put.f k a0_0 a0_1 a0_2 a0_3 a0_4 a0_5 a0_6 a0_7 a0_8 a0_9 a1 = some r) :
    Calls Try.prog 45 #[.agg #[.int .i64 a0_0, .int .i64 a0_1, .bool a0_2, .bool a0_3, .int .i64 a0_4, .int .i64 a0_5, .int .i64 a0_6, .int .i64 a0_7, .int .i64 a0_8, .int .i64 a0_9], .int .i64 a1] w fun e w' => e = .returned (.string r) ∧ Below w.heap.size w w' := by
  have hu23 := Try.underlying23
  have HB := Aside0.mk (Below.refl w.heap.size w)
  have H : ((miradorref13_put.f k a0_2 (wrap64 (Int.tdiv a0_0 8)) a1).bind fun t256 => (some t256)) = some r := h
  clear h
  replace H := Option.bind_eq_some_iff.mp H
  obtain ⟨t256, A30, H⟩ := H
  replace H : (some t256) = some r := H
  have A3 := Aside0.mk A30
  clear A30
  obtain rfl := Option.some.inj H
  go_enter Try.func45, Try.ntmps45
  go_wp2_with (first | ((with_reducible refine gate_dst (N := 2) rfl ?_); refine box_event ?hg (N := 2) ?hd (cs := #[.int .i64 a0_0, .int .i64 a0_1, .bool a0_2, .bool a0_3, .int .i64 a0_4, .int .i64 a0_5, .int .i64 a0_6, .int .i64 a0_7, .int .i64 a0_8, .int .i64 a0_9]) (t := 23) ?hr ?_; (case hd => rfl); (case hg => rfl); (case hr => first | (go_simp; done) | (go_simp; rfl)); intro gb255 hg w4 hbox hb; have n0_ := Aside0.mk (below_step (by repeat (first | (with_reducible first | exact HB.out | apply below_alloc | apply pw_below_drewN | apply below_drew1) | exact HB.out)) hb); have n1_ := Aside0.mk (hbox); have n2_ := Aside0.mk ((by rw [hg]; exact (below_size (by repeat (first | (with_reducible first | exact HB.out | apply below_alloc | apply pw_below_drewN | apply below_drew1) | exact HB.out))) : w.heap.size ≤ gb255)); have n3_ := Aside0.mk ((by rw [hg]; exact (below_size (by repeat (first | (with_reducible first | exact HB.out | apply below_alloc | apply pw_below_drewN | apply below_drew1) | exact HB.out))) : w.heap.size ≤ gb255)); clear HB; have HB := n0_; have BK255 := n1_; have GW255 := n2_; have GE255 := n3_; clear n0_ n1_ n2_ n3_; clear hb hbox hg; have hcz5_0 : w4.cell? ⟨gb255, 0, none⟩ = some (.int .i64 a0_0) := (blk_cell BK255.out 0).trans rfl; have hcz5_1 : w4.cell? ⟨gb255, 1, none⟩ = some (.int .i64 a0_1) := (blk_cell BK255.out 1).trans rfl; have hcz5_2 : w4.cell? ⟨gb255, 2, none⟩ = some (.bool a0_2) := (blk_cell BK255.out 2).trans rfl; have hcz5_3 : w4.cell? ⟨gb255, 3, none⟩ = some (.bool a0_3) := (blk_cell BK255.out 3).trans rfl; have hcz5_4 : w4.cell? ⟨gb255, 4, none⟩ = some (.int .i64 a0_4) := (blk_cell BK255.out 4).trans rfl; have hcz5_5 : w4.cell? ⟨gb255, 5, none⟩ = some (.int .i64 a0_5) := (blk_cell BK255.out 5).trans rfl; have hcz5_6 : w4.cell? ⟨gb255, 6, none⟩ = some (.int .i64 a0_6) := (blk_cell BK255.out 6).trans rfl; have hcz5_7 : w4.cell? ⟨gb255, 7, none⟩ = some (.int .i64 a0_7) := (blk_cell BK255.out 7).trans rfl; have hcz5_8 : w4.cell? ⟨gb255, 8, none⟩ = some (.int .i64 a0_8) := (blk_cell BK255.out 8).trans rfl; have hcz5_9 : w4.cell? ⟨gb255, 9, none⟩ = some (.int .i64 a0_9) := (blk_cell BK255.out 9).trans rfl; have hfz5_0 := blk_frozen BK255.out 0; have hfz5_1 := blk_frozen BK255.out 1; have hfz5_2 := blk_frozen BK255.out 2; have hfz5_3 := blk_frozen BK255.out 3; have hfz5_4 := blk_frozen BK255.out 4; have hfz5_5 := blk_frozen BK255.out 5; have hfz5_6 := blk_frozen BK255.out 6; have hfz5_7 := blk_frozen BK255.out 7; have hfz5_8 := blk_frozen BK255.out 8; have hfz5_9 := blk_frozen BK255.out 9) | ((with_reducible refine gate_callee (f := 63) rfl ?_); refine goesL_ (some 11) rfl rfl Try.func63 (by kernel_rfl) rfl #[.bool a0_2, .int .i64 (wrap64 (Int.tdiv a0_0 8)), .int .i64 a1] rfl (by (try simp only [List.map_toArray, List.map_cons, List.map_nil]); first | done | rfl | (simp only [List.length_drop, List.length_take]; rfl)) ?_; (with_reducible refine (miradorref13_put.calls k a0_2 (wrap64 (Int.tdiv a0_0 8)) a1 t256 _ A3.out).mono ?_); rintro e w6 ⟨rfl, hb⟩; refine ⟨_, rfl, ?_⟩; have n0_ := Aside0.mk (blk_below (g := gb255) (o := .cells #[.int .i64 a0_0, .int .i64 a0_1, .bool a0_2, .bool a0_3, .int .i64 a0_4, .int .i64 a0_5, .int .i64 a0_6, .int .i64 a0_7, .int .i64 a0_8, .int .i64 a0_9] 23 (0, 0)) (by (with_reducible repeat (first | refine blk_drewN ?_ _ | refine blk_drew ?_ | refine blk_alloc ?_ _)); exact BK255.out) hb); have n1_ := Aside0.mk (below_step (by repeat (first | (with_reducible first | exact HB.out | apply below_alloc | apply pw_below_drewN | apply below_drew1 | refine below_set ?_ GE255.out) | exact HB.out)) hb); clear BK255; clear HB; have BK255 := n0_; have HB := n1_; clear n0_ n1_; (try clear hb); (try clear hb2); (try clear hk); (try clear hi)))
  go_ret
  exact ⟨by first | rfl | (simp [errW_none, errW_some] <;> rfl) | (simp [*, errW_none, errW_some] <;> rfl), by repeat (first | (with_reducible first | exact HB.out | apply below_alloc | apply pw_below_drewN | apply below_drew1 | refine below_set ?_ GE255.out) | exact HB.out)⟩

end Go.Proofs.Ytloigmonfbfieaa.X
