/- A screen: its rows, one after the other (the iterator's contract). No condition. -/
import Derived.RangeFuncNested
import Derived.RangeFuncBound
import Derived.RangeFuncCalls
import Derived.RangeFuncLeaves
import Derived.Shelf.Abstract
import Derived.Shelf.RegionOpen
import Derived.WalkKit
import Derived.OwnWalkIn
import Derived.TacticsInMore
import Derived.LoopNIn
import Derived.LoopIn
import Derived.Sort.QuietIn
import Derived.Lib.Hide
import Derived.Test.YtjcibgopebpkiaaXx1
import Derived.Test.YtjcibgopebpkiaaB0
import Derived.Test.YtjcibgopebpkiaaSCP
namespace Go.Proofs.Ytjcibgopebpkiaa.SC
open Go.RowKit Go.Shelf Go.Proofs.YtjcibgopebpkiaaW.PrintWords Go.Proofs.YtjcibgopebpkiaaW.PrintLast Go.Proofs.YtjcibgopebpkiaaW.PrintMore Go.Proofs.Ytjcibgopebpkiaa.B Go.Proofs.Ytjcibgopebpkiaa.SCP
set_option linter.unusedVariables false
set_option linter.unusedSimpArgs false
attribute [local go_sem] Oper.semAt_some
/-- What a round keeps: all that lay below n₀, but block rb. -/
def KeepRow (n₀ rb : Nat) (W W' : World) : Prop := W.heap.size ≤ W'.heap.size ∧ ∀ k, k < n₀ → k ≠ rb → W'.heap[k]? = W.heap[k]?
theorem keepRow_t {n₀ rb : Nat} {A B C : World} (h : KeepRow n₀ rb A B) (k : KeepRow n₀ rb B C) : KeepRow n₀ rb A C := ⟨Nat.le_trans h.1 k.1, fun q hq hn => (k.2 q hq hn).trans (h.2 q hq hn)⟩
theorem keepRow_b {n₀ rb : Nat} {w : World} (hn : n₀ ≤ w.heap.size) (W : World) (l : Nat) (o o' : Obj) (hl : w.heap.size ≤ l) (h : W.heap[l]? = some o) (_ : o.isCells = false) (_ : o.isWalk = false) : KeepRow n₀ rb W (W.putObj l o') := by
  refine ⟨(grownBy_putObj' W l o').size, fun k hk _ => (grownBy_putObj' W l o').block k (by have := (Array.getElem?_eq_some_iff.1 h).1; omega) (fun e => by cases e; omega)⟩
/-- A row's place in the colours, as the machine tells it. -/
def rowV (rb n from_ rw : Nat) : Value := .slice (some (if n = from_ then ⟨rb, 0, none⟩ else ⟨rb, from_, none⟩)) rw (n - from_)
theorem grownBy_drewN_ (w : World) (q : Nat) : w.grownBy (w.drewN q) none := ⟨rfl, rfl, rfl, Nat.le_refl _, fun _ _ _ => rfl⟩
set_option maxRecDepth 100000 in
set_option maxHeartbeats 4000000 in
theorem rows1_in (n : Nat) (hn : 1 ≤ n) (l Br Bs g rb n₀ ex : Nat) (x y rw rh w h : Int) (tot : Nat) (hx : 0 ≤ x) (hy : 0 ≤ y) (hrw : 0 ≤ rw) (hrh : 0 ≤ rh) (hxw : x + rw ≤ w) (hyh : y + rh ≤ h) (hw0 : 0 < w) (hw : w ≤ 4096) (hh : h ≤ 4096) (ht : (tot : Int) = w * h)
    (hb : Br < n₀ ∧ Br ≠ ex ∧ Bs < n₀ ∧ Bs ≠ ex ∧ g < n₀ ∧ g ≠ ex) (J Jx : List {k : Nat // (k : Int) < rh} → World → Prop) (B0 : Nat) (hJ : AbidesFrom B0 J) (hJx : AbidesFrom B0 Jx)
    (hY : ∀ pre k W, J pre W → pre.length < rh.toNat → YieldAt Fence.wide (n - 1) Try.prog l #[.int .i64 (k.1 : Int), rowV rb tot ((y + k.1) * w + x).toNat rw.toNat] W fun e W' =>
      (e = .returned (.bool true) ∧ J (pre ++ [k]) W' ∧ KeepRow n₀ ex W W') ∨ (e = .returned (.bool false) ∧ Jx (pre ++ [k]) W'))
    (W : World) (hBr : W.heap[Br]? = some (.cells #[.int .i64 x, .int .i64 y, .int .i64 rw, .int .i64 rh] 30 (0, 0))) (hBs : W.heap[Bs]? = some (.cells #[.pointer (some ⟨g, 0, none⟩)] 24 (0, 0)))
    (hg : W.heap[g]? = some (.cells #[.int .i64 w, .int .i64 h, .slice (some ⟨rb, 0, none⟩) tot tot] 66 (0, 0))) (h0 : J [] W) :
    CallsIn Fence.wide n Try.prog 45 #[.func (.yield l) #[] #[], .pointer (some ⟨Br, 0, none⟩), .pointer (some ⟨Bs, 0, none⟩)] W fun e W' => (∃ v, e = .returned v) ∧
      ((∃ ys, ys.map (·.1) = List.range rh.toNat ∧ J ys W') ∨ (∃ pre, True ∧ Jx pre W')) := by
  refine callsIn_of_wp Try.func45 rfl trivial ?_ rfl
  simp only [Try.ntmps45, List.size_toArray, List.length_cons, List.length_nil, Nat.reduceAdd, Nat.reduceSub, Array.replicate_succ, Array.replicate_zero, List.push_toArray, List.append_toArray, List.nil_append, List.cons_append]
  have r0 : W.cell? ⟨Br, 0, none⟩ = some (.int .i64 x) := by rw [World.cell?, hBr]; rfl
  have r1 : W.cell? ⟨Br, 1, none⟩ = some (.int .i64 y) := by rw [World.cell?, hBr]; rfl
  have r2 : W.cell? ⟨Br, 2, none⟩ = some (.int .i64 rw) := by rw [World.cell?, hBr]; rfl
  have r3 : W.cell? ⟨Br, 3, none⟩ = some (.int .i64 rh) := by rw [World.cell?, hBr]; rfl
  have HBr := Lib.hid hBr
  have HBs := Lib.hid hBs
  have HG := Lib.hid hg
  have HY := Lib.hid hY
  clear hBr hBs hg hY
  gi_wp2
  clear r0 r1 r2 r3
  gi_loopw [8] (fun i wr => ∃ (k : Nat) (ys : List {k : Nat // (k : Int) < rh}), k ≤ rh.toNat ∧ i = .int .i64 k ∧ Hid (ys.map (·.1) = List.range k) ∧ J ys wr ∧ Hid (KeepRow n₀ ex W wr))
    (fun i _ => rh.toNat - (intOf i).toNat)
  case atStart => exact ⟨0, [], Nat.zero_le _, rfl, Lib.hid rfl, h0, Lib.hid ⟨Nat.le_refl _, fun _ _ _ => rfl⟩⟩
  case round =>
    obtain ⟨k, ys, hk, rfl, HYS, hJs, HK⟩ := hrel
    have q0 : wr.cell? ⟨Br, 0, none⟩ = some (.int .i64 x) := by rw [World.cell?, HK.out.2 _ hb.1 hb.2.1, HBr.out]; rfl
    have q1 : wr.cell? ⟨Br, 1, none⟩ = some (.int .i64 y) := by rw [World.cell?, HK.out.2 _ hb.1 hb.2.1, HBr.out]; rfl
    have q2 : wr.cell? ⟨Br, 2, none⟩ = some (.int .i64 rw) := by rw [World.cell?, HK.out.2 _ hb.1 hb.2.1, HBr.out]; rfl
    have p0 : wr.cell? ⟨Bs, 0, none⟩ = some (.pointer (some ⟨g, 0, none⟩)) := by rw [World.cell?, HK.out.2 _ hb.2.2.1 hb.2.2.2.1, HBs.out]; rfl
    have g0 : wr.cell? ⟨g, 0, none⟩ = some (.int .i64 w) := by rw [World.cell?, HK.out.2 _ hb.2.2.2.2.1 hb.2.2.2.2.2, HG.out]; rfl
    have g2 : wr.cell? ⟨g, 2, none⟩ = some (.slice (some ⟨rb, 0, none⟩) tot tot) := by rw [World.cell?, HK.out.2 _ hb.2.2.2.2.1 hb.2.2.2.2.2, HG.out]; rfl
    by_cases hlt : (k : Int) < rh
    · have hd : decide ((k : Int) < rh) = true := decide_eq_true hlt
      have hfit := row_fits (k := k) hw0 hx hy hrw hxw hyh hlt
      obtain ⟨fr, hfr⟩ : ∃ fr : Nat, (y + k) * w + x = fr := ⟨((y + k) * w + x).toNat, by omega⟩
      rw [hfr, ← ht] at hfit
      have htot : (tot : Int) ≤ 16777216 := by
        rw [ht]
        exact Int.le_trans (Int.mul_le_mul_of_nonneg_right hw (by omega)) (by omega)
      have w1 : IntKind.i64.wrap (y + k) = y + k := by rw [IntKind.wrap_i64]; omega
      have w2 : IntKind.i64.wrap ((y + k) * w) = (y + k) * w := by rw [IntKind.wrap_i64]; omega
      have w3 : IntKind.i64.wrap ((fr : Int)) = fr := by rw [IntKind.wrap_i64]; omega
      have w4 : IntKind.i64.wrap ((fr : Int) + rw) = fr + rw := by rw [IntKind.wrap_i64]; omega
      obtain ⟨rwn, rfl⟩ : ∃ rwn : Nat, rw = rwn := ⟨rw.toNat, by omega⟩
      have hyq : ∀ q : Nat, ∃ p : FuncId × Array Value × Code × Code, (Instr.yield l #[.int .i64 (k : Int), rowV rb tot fr rwn]).run Try.prog (wr.drewN q) = .ok (.round l p.1 p.2.1 p.2.2.1 p.2.2.2) (wr.drewN q) ∧
          RoundIn Fence.wide (n - 1) Try.prog l p.1 p.2.1 p.2.2.1 p.2.2.2 (wr.drewN q) fun e W' => ∃ b, e = .returned (.bool b) ∧ (b = true → J (ys ++ [⟨k, hlt⟩]) W' ∧ KeepRow n₀ ex (wr.drewN q) W') ∧ (b = false → Jx (ys ++ [⟨k, hlt⟩]) W') := by
        intro q
        obtain ⟨fn, tmps, assign, body, hy2, hR⟩ := HY.out ys ⟨k, hlt⟩ (wr.drewN q) (hJ _ _ _ none hJs (grownBy_drewN_ wr q) (fun r h => by cases h)) (by have := congrArg List.length HYS.out; simp at this; omega)
        dsimp only at hy2
        rw [hfr, Int.toNat_natCast, Int.toNat_natCast] at hy2
        refine ⟨(fn, tmps, assign, body), hy2, hR.mono ?_⟩
        rintro e W' (⟨rfl, h1, h2⟩ | ⟨rfl, h1⟩)
        · exact ⟨true, rfl, fun _ => ⟨h1, h2⟩, fun h => by cases h⟩
        · exact ⟨false, rfl, (fun h => by cases h), fun _ => h1⟩
      obtain ⟨fq, hfq⟩ := Classical.axiomOfChoice hyq
      have hy2 := fun q => (hfq q).1
      have HR := Lib.hid (fun q => (hfq q).2)
      clear hyq hfq
      have HT := Lib.hid ht
      clear ht
      unfold rowV at hy2
      by_cases hc : tot = fr
      · rw [if_pos hc] at hy2
        subst hc
        obtain rfl : rwn = 0 := by omega
        simp only [Nat.sub_self] at hy2
        gi_wp2
        gi_quiet (fail)
        gi_wp2
        gi_region_with (refine (HR.out _).mono ?_; rintro e W3 ⟨b, rfl, h3, h4⟩)
        all_goals
          have H3 := Lib.hid h3
          have H4 := Lib.hid h4
          clear h3 h4 hy2 q0 q1 q2 p0 g0 g2 w1 w2 w3 w4
          cases b
          · gi_wp2
            refine bodyPost_ret (results_none rfl _ _ _) rfl ?_
            exact ⟨⟨_, rfl⟩, .inr ⟨_, H4.out (by trivial)⟩⟩
          · gi_wp2
            go_roundw
            case rel => exact ⟨k + 1, ys ++ [⟨k, hlt⟩], by omega, by simp, Lib.hid (by rw [List.map_append, HYS.out, List.range_succ]; rfl), (H3.out rfl).1, Lib.hid (keepRow_t (show KeepRow n₀ ex W (wr.drewN _) from HK.out) (H3.out rfl).2)⟩
            case measure => simp [intOf]; omega
      · simp only [if_neg hc] at hy2
        gi_wp2
        gi_quiet (fail)
        gi_wp2
        gi_region_with (refine (HR.out _).mono ?_; rintro e W3 ⟨b, rfl, h3, h4⟩)
        all_goals
          have H3 := Lib.hid h3
          have H4 := Lib.hid h4
          clear h3 h4 hy2 q0 q1 q2 p0 g0 g2 w1 w2 w3 w4
          cases b
          · gi_wp2
            refine bodyPost_ret (results_none rfl _ _ _) rfl ?_
            exact ⟨⟨_, rfl⟩, .inr ⟨_, H4.out (by trivial)⟩⟩
          · gi_wp2
            go_roundw
            case rel => exact ⟨k + 1, ys ++ [⟨k, hlt⟩], by omega, by simp, Lib.hid (by rw [List.map_append, HYS.out, List.range_succ]; rfl), (H3.out rfl).1, Lib.hid (keepRow_t (show KeepRow n₀ ex W (wr.drewN _) from HK.out) (H3.out rfl).2)⟩
            case measure => simp [intOf]; omega
    · have hd : decide ((k : Int) < rh) = false := decide_eq_false hlt
      gi_wp2
      go_end0
      exact ⟨⟨_, rfl⟩, .inl ⟨ys, by have h1 := HYS.out; rw [show k = rh.toNat by omega] at h1; simpa using h1, hJs⟩⟩
set_option maxHeartbeats 1000000 in
/-- The rows of a rectangle: the iterator's value. -/
theorem rows_c (g : Nat) (x y rw rh : Int) (w : World) :
    Calls Try.prog 39 #[.pointer (some ⟨g, 0, none⟩), .agg #[.int .i64 x, .int .i64 y, .int .i64 rw, .int .i64 rh]] w fun e w' => e = .returned (.func (.func 45) #[] #[.pointer (some ⟨w.heap.size + 1, 0, none⟩), .pointer (some ⟨w.heap.size, 0, none⟩)]) ∧
      w' = (w.alloc (.cells #[.pointer (some ⟨g, 0, none⟩)] 24)).alloc (.cells #[.int .i64 x, .int .i64 y, .int .i64 rw, .int .i64 rh] 30) := by
  go_enter Try.func39, Try.ntmps39
  go_wp2
  go_ret
  exact ⟨rfl, rfl⟩
theorem rows_stops (n : Nat) (hn : 1 ≤ n) (Br Bs g rb n₀ ex : Nat) (x y rw rh w h : Int) (tot : Nat) (hx : 0 ≤ x) (hy : 0 ≤ y) (hrw : 0 ≤ rw) (hrh : 0 ≤ rh) (hxw : x + rw ≤ w) (hyh : y + rh ≤ h) (hw0 : 0 < w) (hw : w ≤ 4096) (hh : h ≤ 4096) (ht : (tot : Int) = w * h)
    (hb : Br < n₀ ∧ Br ≠ ex ∧ Bs < n₀ ∧ Bs ≠ ex ∧ g < n₀ ∧ g ≠ ex) (W : World) (hn0 : n₀ ≤ W.heap.size) (hBr : W.heap[Br]? = some (.cells #[.int .i64 x, .int .i64 y, .int .i64 rw, .int .i64 rh] 30 (0, 0))) (hBs : W.heap[Bs]? = some (.cells #[.pointer (some ⟨g, 0, none⟩)] 24 (0, 0)))
    (hg : W.heap[g]? = some (.cells #[.int .i64 w, .int .i64 h, .slice (some ⟨rb, 0, none⟩) tot tot] 66 (0, 0))) :
    SeqStopsK Fence.wide n Try.prog 45 #[.pointer (some ⟨Br, 0, none⟩), .pointer (some ⟨Bs, 0, none⟩)] (fun k : {k : Nat // (k : Int) < rh} => #[.int .i64 (k.1 : Int), rowV rb tot ((y + k.1) * w + x).toNat rw.toNat]) (KeepRow n₀ ex)
      (fun ys => ys.map (·.1) = List.range rh.toNat) (fun _ => True) rh.toNat W := fun l J Jx W1 hW hJ hJx hY h0 => by
  refine rows1_in n hn l Br Bs g rb n₀ ex x y rw rh w h tot hx hy hrw hrh hxw hyh hw0 hw hh ht hb J Jx W1.heap.size hJ hJx hY W1 ?_ ?_ ?_ h0
  · exact (hW.block _ (by omega)).trans hBr
  · exact (hW.block _ (by omega)).trans hBs
  · exact (hW.block _ (by omega)).trans hg
end Go.Proofs.Ytjcibgopebpkiaa.SC
