/- ServermsgWrites: all that a server says, or that it can't be, is just what the document says. No condition. -/
-- OPEN 2 Go.Proofs.Ytpackckoblpbfaa.RC.open_start sa sb sc sd se sf sg sh si sj sk sl sm : ta tb tc td tg th ti tj tk tl tm
-- OPEN 3 Go.Proofs.Ytpackckoblpbfaa.RC.open_head ha hb hc hd he : ja jb jc jd je
-- OPEN 4 Go.Proofs.Ytpackckoblpbfaa.RC.open_msg ma mb mc md me mf mg mh mi mj mk ml mm mn mo mp mq mA mz mC mr : na nc nd ne nf ng nh ni nl nm nn no np nq nr ny ns
import Derived.Test.YtpackckoblpbfaaSW2
import Derived.Test.YtpackckoblpbfaaORS
import Derived.Test.YtpackckoblpbfaaXx23
import Derived.Test.YtpackckoblpbfaaXx33
import Derived.Test.YtpackckoblpbfaaXx29
import Derived.Test.YtpackckoblpbfaaXx24
import Derived.Test.YtpackckoblpbfaaXx32
import Derived.Test.YtpackckoblpbfaaXx34
import Derived.Test.YtpackckoblpbfaaXx8
import Derived.Test.YtpackckoblpbfaaXx31
import Derived.Test.YtpackckoblpbfaaXx13
import Derived.Test.YtpackckoblpbfaaXx14
import Derived.Test.YtpackckoblpbfaaFM2
import Derived.Test.YtpackckoblpbfaaFM11A
import Derived.Test.YtpackckoblpbfaaXx12
import Derived.Test.YtpackckoblpbfaaXx30
import Derived.Test.YtpackckoblpbfaaRO
import Derived.Test.YtpackckoblpbfaaXx21
import Derived.Test.YtpackckoblpbfaaXx35
namespace Go.Proofs.Ytpackckoblpbfaa.H
set_option linter.unusedVariables false
set_option linter.unusedSimpArgs false
open Go.RowKit Go.Proofs.Ytpackckoblpbfaa.X Go.Proofs.Ytpackckoblpbfaa.B Go.Proofs.Ytpackckoblpbfaa.O Go.Proofs.YtpackckoblpbfaaW.PrintWords Go.Proofs.YtpackckoblpbfaaW.PrintLast Go.Proofs.YtpackckoblpbfaaW.PrintMore
/-- The program's writer and the document's hold the same. -/
def Rel (st : WS) (p : ByteArray × Bool) : Prop := st.1 = p.1.data.toList ∧ st.2 = (if p.2 = true then 0 else 1)
theorem Rel.size {st : WS} {p : ByteArray × Bool} (h : Rel st p) : p.1.size = st.1.length := by rw [ba_size, h.1]
theorem Rel.new (b : Bool) (e : Int) (he : e = if b = true then 0 else 1) : Rel ([], e) (⟨#[]⟩, b) := ⟨rfl, he⟩
theorem rel_W {st : WS} {p : ByteArray × Bool} (h : Rel st p) {z n : Int} (hn : n ≤ 9223372036854775807) (k : Nat) (hk : 8 ≤ k) (hl : st.1.length ≤ 140737488350000) : ∃ q, miradorref22_Writer_Int.f k p.1 p.2 z n = some q ∧ Rel (pW z st n) q := by
  obtain ⟨S, ok⟩ := p
  have hz := h.size
  obtain ⟨h1, h2⟩ := h
  unfold miradorref22_Writer_Int.f
  have e := rPut_f hk z n hn
  dsimp only at h1 h2 hz ⊢
  by_cases hf : fits z n
  · rw [if_pos hf] at e
    have hs := beL_length hf
    have h4 : (strOfNums (beL z n)).size ≤ 4 := by rw [strOfNums_size]; unfold fits at hf; omega
    rw [pW_fits hf]
    cases ok with
    | true =>
      exact ⟨_, bind_eq e ((if_pos (by show S.size + (strOfNums (beL z n)).size ≤ _; omega)).trans (if_pos rfl)), by show st.1 ++ _ = _; rw [ba_append, ← h1]; rfl, h2⟩
    | false =>
      exact ⟨_, bind_eq e ((if_pos (by show S.size + (strOfNums (beL z n)).size ≤ _; omega)).trans (if_neg (by decide))), by show st.1 ++ _ = _; rw [ba_append, ← h1]; rfl, h2⟩
  · rw [if_neg hf] at e
    have hw : pW z st n = (st.1, errW1 false 1 st.2) := if_neg hf
    rw [hw]
    cases ok with
    | true =>
      refine ⟨_, bind_eq e ((if_pos (by show S.size + 0 ≤ _; omega)).trans (if_pos rfl)), ?_, ?_⟩
      · show st.1 = (S ++ (⟨#[]⟩ : ByteArray)).data.toList
        rw [ba_append_nil]; exact h1
      · show errW1 false 1 st.2 = 1
        rw [errW1_false, h2]; rfl
    | false =>
      refine ⟨_, bind_eq e ((if_pos (by show S.size + 0 ≤ _; omega)).trans (if_neg (by decide))), ?_, ?_⟩
      · show st.1 = (S ++ (⟨#[]⟩ : ByteArray)).data.toList
        rw [ba_append_nil]; exact h1
      · show errW1 false 1 st.2 = 1
        rw [errW1_false, h2]; rfl
theorem rel_T {st : WS} {p : ByteArray × Bool} (h : Rel st p) (s : ByteArray) (k : Nat) (hk : 8 ≤ k) (hl : st.1.length + s.size ≤ 140737488340000) : ∃ q, miradorref23_long.f k p.1 p.2 s = some q ∧ Rel (pT st s) q := by
  unfold miradorref23_long.f pT
  by_cases hs : (s.size : Int) ≤ 4096
  · obtain ⟨q, e, hq⟩ := rel_W h (z := 4) (n := (s.size : Int)) (by omega) k hk (by omega)
    have hz := hq.size
    have h4 := pW_len 4 st (s.size : Int)
    rw [decide_eq_true hs, errW1_true]
    generalize pW 4 st (s.size : Int) = t at *
    obtain ⟨Q, ok⟩ := q
    dsimp only at hz
    obtain ⟨h1, h2⟩ := hq
    cases ok with
    | true => exact ⟨(Q ++ s, true), bind_eq e ((if_pos (by show Q.size + s.size ≤ _; omega)).trans (if_pos rfl)), by rw [pA_1]; show _ = (Q ++ s).data.toList; rw [ba_append, ← h1], by rw [pA_2, h2]⟩
    | false => exact ⟨_, bind_eq e ((if_pos (by show Q.size + s.size ≤ _; omega)).trans (if_neg (show ¬ (false = true) by decide))), by rw [pA_1]; show _ = (Q ++ s).data.toList; rw [ba_append, ← h1], by rw [pA_2, h2]⟩
  · rw [decide_eq_false hs]
    have h' : Rel (st.1, errW1 false 1 st.2) (p.1, false) := ⟨h.1, by show errW1 false 1 st.2 = 1; rw [errW1_false, h.2]; cases p.2 <;> rfl⟩
    obtain ⟨q, e, hq⟩ := rel_W h (z := 4) (n := (s.size : Int)) (by omega) k hk (by omega)
    obtain ⟨q', e', hq'⟩ := rel_W h' (z := 4) (n := (s.size : Int)) (by omega) k hk (by show st.1.length ≤ _; omega)
    have hz := hq.size
    have h4 := pW_len 4 st (s.size : Int)
    -- the same bytes, whatever the flag
    have hb : q.1 = q'.1 := by
      apply ba_ext
      rw [← hq.1, ← hq'.1]
      by_cases hf : fits 4 (s.size : Int)
      · rw [pW_fits hf, pW_fits hf]
      · have a : pW 4 st (s.size : Int) = (st.1, errW1 false 1 st.2) := if_neg hf
        have b : pW 4 ((st.1, errW1 false 1 st.2) : WS) (s.size : Int) = (st.1, errW1 false 1 (errW1 false 1 st.2)) := if_neg hf
        rw [a, b]
    have h2' : (pW 4 ((st.1, errW1 false 1 st.2) : WS) (s.size : Int)).2 = 1 := by
      have e0 : errW1 false 1 st.2 = 1 := by rw [errW1_false, h.2]; cases p.2 <;> rfl
      rw [e0]
      by_cases hf : fits 4 (s.size : Int)
      · rw [pW_fits hf]
      · have b : pW 4 ((st.1, (1 : Int)) : WS) (s.size : Int) = (st.1, errW1 false 1 1) := if_neg hf
        rw [b]; rfl
    have h1' := hq'.1
    generalize pW 4 ((st.1, errW1 false 1 st.2) : WS) (s.size : Int) = t' at *
    rw [← hb] at h1'
    obtain ⟨Q, ok⟩ := q
    dsimp only at hz h1'
    cases ok with
    | true => exact ⟨(Q ++ s, false), bind_eq e ((if_pos (by show Q.size + s.size ≤ _; omega)).trans (if_pos rfl)), by rw [pA_1]; show _ = (Q ++ s).data.toList; rw [ba_append, ← h1'], by rw [pA_2, h2']; rfl⟩
    | false => exact ⟨(Q ++ s, false), bind_eq e ((if_pos (by show Q.size + s.size ≤ _; omega)).trans (if_neg (show ¬ (false = true) by decide))), by rw [pA_1]; show _ = (Q ++ s).data.toList; rw [ba_append, ← h1'], by rw [pA_2, h2']; rfl⟩
theorem rel_done {st : WS} {p : ByteArray × Bool} (h : Rel st p) : ∃ q, miradorref23_done.f p.1 p.2 = some (q : ByteArray × Int × ByteArray × Bool) ∧ q.1 = (doneS st).1 ∧ q.2.1 = (doneS st).2 := by
  obtain ⟨S, ok⟩ := p
  obtain ⟨h1, h2⟩ := h
  unfold miradorref23_done.f doneS
  dsimp only at h1 h2
  cases ok with
  | true =>
    rw [if_neg (show ¬ (st.2 ≠ 0) from fun h => h h2)]
    exact ⟨_, if_pos rfl, by show S = _; apply ba_ext; rw [← h1], rfl⟩
  | false =>
    have h2 : st.2 = 1 := h2
    rw [if_pos (show st.2 ≠ 0 by rw [h2]; decide), h2]
    exact ⟨_, if_neg (show ¬ (false = true) by decide), rfl, rfl⟩
/-- Both answer, and the same. -/
def Same2 (x y : Option (ByteArray × Int)) : Prop := ∃ p q, x = some p ∧ y = some q ∧ p.1 = q.1 ∧ p.2 = q.2
theorem same_done {st : WS} {p : ByteArray × Bool} (h : Rel st p) : Same2 (some (doneS st)) ((miradorref23_done.f p.1 p.2).bind fun b => some (b.1, b.2.1)) := by
  obtain ⟨q, e, a, b⟩ := rel_done h
  exact ⟨_, _, rfl, bind_eq e rfl, a.symm, b.symm⟩
/-! Kinds. -/
theorem rkinds_l (l : List Int) (hl : ∀ x ∈ l, x ≤ 9223372036854775807) (h1 : l.length ≤ 1000) : ∀ (d i : Nat) (k : Nat) (st : WS) (p : ByteArray × Bool), i + d = l.length → d + 10 ≤ k → st.1.length + 4 * d ≤ 100000 → Rel st p → Same2 (some (doneS (pWs 1 (l.drop i) st))) (miradorref23_Kinds.l0 k l (i : Int) p.1 p.2)
  | 0, i, k, st, p, hi, hk, hs, h => by
    obtain ⟨k, rfl⟩ : ∃ m, k = m + 1 := ⟨k - 1, by omega⟩
    simp only [miradorref23_Kinds.l0]
    rw [if_neg (by omega), List.drop_of_length_le (by omega)]
    exact same_done h
  | d + 1, i, k, st, p, hi, hk, hs, h => by
    obtain ⟨k, rfl⟩ : ∃ m, k = m + 1 := ⟨k - 1, by omega⟩
    simp only [miradorref23_Kinds.l0]
    have hi2 : i < l.length := by omega
    rw [if_pos (by omega), if_pos (by omega)]
    have hx : rd l (i : Int) = l[i] := by simp [rd, List.getD, hi2]
    obtain ⟨q, e, hq⟩ := rel_W h (z := 1) (n := l[i]) (hl _ (List.getElem_mem hi2)) k (by omega) (by omega)
    have hw := pW_len 1 st l[i]
    have := rkinds_l l hl h1 d (i + 1) k _ q (by omega) (by omega) (by omega) hq
    rw [List.drop_eq_getElem_cons hi2]
    rw [hx, e]
    rw [show wrap64 ((i : Int) + 1) = ((i + 1 : Nat) : Int) by rw [w64 (by omega) (by omega)]; omega]
    exact this
theorem kinds_same (l : List Int) (hl : ∀ x ∈ l, x ≤ 9223372036854775807) (h1 : l.length ≤ 300) (k : Nat) (hk : 400 ≤ k) : Same2 (servermsg_Kinds.f l) (miradorref23_Kinds.f k l) := by
  unfold servermsg_Kinds.f miradorref23_Kinds.f
  rw [if_pos (by omega)]
  have hr : Rel ([], errW1 (decide (0 < l.length)) 1 0) (⟨#[]⟩, decide ((l.length : Int) ≥ 1)) := by
    refine Rel.new _ _ ?_
    by_cases h : 0 < l.length
    · rw [decide_eq_true h, decide_eq_true (by omega), errW1_true]; rfl
    · rw [decide_eq_false h, decide_eq_false (by omega), errW1_false]; rfl
  obtain ⟨q, e, hq⟩ := rel_W hr (z := 1) (n := (l.length : Int)) (by omega) k (by omega) (by show (0 : Nat) ≤ _; omega)
  have z1 := pW_len 1 ([], errW1 (decide (0 < l.length)) 1 0) (l.length : Int)
  have z0 : (([], errW1 (decide (0 < l.length)) 1 0) : WS).1.length = 0 := rfl
  have w1 := wInts_f 1 [(l.length : Int)] ([], errW1 (decide (0 < l.length)) 1 0) (by rw [List.length_singleton, List.length_nil]; omega)
  rw [pWs_one] at w1
  obtain ⟨a, b, e1, e2, e3⟩ := rkinds_l l hl (by omega) l.length 0 k _ q (by omega) (by omega) (by omega) hq
  have w2 := wInts_f 1 l (pW 1 ([], errW1 (decide (0 < l.length)) 1 0) (l.length : Int)) (by omega)
  exact ⟨a, b, bind_eq w1 (bind_eq w2 e1), bind_eq e e2, e3⟩
end Go.Proofs.Ytpackckoblpbfaa.H
namespace Go.Proofs.Ytpackckoblpbfaa.H
set_option linter.unusedVariables false
set_option linter.unusedSimpArgs false
open Go.RowKit Go.Proofs.Ytpackckoblpbfaa.X Go.Proofs.Ytpackckoblpbfaa.B Go.Proofs.Ytpackckoblpbfaa.O Go.Proofs.YtpackckoblpbfaaW.PrintWords Go.Proofs.YtpackckoblpbfaaW.PrintLast Go.Proofs.YtpackckoblpbfaaW.PrintMore
theorem not_empty (s : ByteArray) : (!s.toList.isEmpty) = decide (s.size ≠ 0) := by
  by_cases h : s.size = 0
  · rw [decide_eq_false (fun k => k h), ba_empty_size.1 h, show (⟨#[]⟩ : ByteArray).toList = [] from ba_eq_nil.2 rfl]; rfl
  · rw [decide_eq_true h]
    cases e : s.toList with
    | nil => exact absurd (ba_empty_size.2 (ba_eq_nil.1 e)) h
    | cons x l => rfl
theorem put_same (a b c d e : Int) (ha : a ≤ 9223372036854775807) (hb : b ≤ 9223372036854775807) (hc : c ≤ 9223372036854775807) (hd : d ≤ 9223372036854775807) (he0 : -9223372036854775808 ≤ e) (he1 : e ≤ 9223372036854775807) (k : Nat) (hk : 20 ≤ k) : Same2 (servermsg_Put.f a b c d e) (miradorref23_Put.f k a b c d e) := by
  unfold servermsg_Put.f miradorref23_Put.f
  have zl : ([a, b, c, d] : List Int).length = 4 := rfl
  have zs := sgL_size e
  obtain ⟨q1, e1, r1⟩ := rel_W (Rel.new true 0 rfl) (z := 2) (n := a) ha k (by omega) (Nat.zero_le _)
  have l1 := pW_len 2 ([], 0) a
  obtain ⟨q2, e2, r2⟩ := rel_W r1 (z := 2) (n := b) hb k (by omega) (by rw [List.length_nil] at l1; omega)
  have l2 := pW_len 2 (pW 2 ([], 0) a) b
  obtain ⟨q3, e3, r3⟩ := rel_W r2 (z := 2) (n := c) hc k (by omega) (by rw [List.length_nil] at l1; omega)
  have l3 := pW_len 2 (pW 2 (pW 2 ([], 0) a) b) c
  obtain ⟨q4, e4, r4⟩ := rel_W r3 (z := 2) (n := d) hd k (by omega) (by rw [List.length_nil] at l1; omega)
  have l4 := pW_len 2 (pW 2 (pW 2 (pW 2 ([], 0) a) b) c) d
  rw [List.length_nil] at l1
  have w1 := wInts_f 2 [a, b, c, d] ([], 0) (by rw [zl, List.length_nil]; omega)
  have w0 : pWs 2 [a, b, c, d] ([], 0) = pW 2 (pW 2 (pW 2 (pW 2 ([], 0) a) b) c) d := rfl
  rw [w0] at w1
  generalize pW 2 (pW 2 (pW 2 (pW 2 ([], 0) a) b) c) d = st at *
  have hz := r4.size
  obtain ⟨S, ok⟩ := q4
  dsimp only at hz
  have hr : Rel (st.1 ++ (sgL e).data.toList, errW1 (decide ((sgL e).size ≠ 0)) 1 st.2) (S ++ sgL e, if ok = true then (!(sgL e).toList.isEmpty) else false) := by
    refine ⟨by show _ = (S ++ sgL e).data.toList; rw [ba_append, ← r4.1], ?_⟩
    show errW1 _ 1 st.2 = if (if ok = true then (!(sgL e).toList.isEmpty) else false) = true then 0 else 1
    rw [not_empty, r4.2]
    by_cases h0 : (sgL e).size = 0
    · rw [decide_eq_false (fun k => k h0), errW1_false]; cases ok <;> rfl
    · rw [decide_eq_true h0, errW1_true]; cases ok <;> rfl
  obtain ⟨x, y, d1, d2, d3⟩ := same_done hr
  refine ⟨x, y, bind_eq w1 (bind_eq (Signed_f (by decide) e he0 he1) ((if_pos (by omega)).trans d1)), bind_eq e1 (bind_eq e2 (bind_eq e3 (bind_eq e4 (bind_eq (rSigned_f (by omega) e he0 he1) ((if_pos (by show S.size + _ ≤ _; omega)).trans ?_))))), d3⟩
  cases ok with
  | true => exact (if_pos rfl).trans d2
  | false => exact (if_neg (show ¬ (false = true) by decide)).trans d2
/-! A result. -/
theorem rel_bytes {st : WS} {p : ByteArray × Bool} (h : Rel st p) : (⟨st.1.toArray⟩ : ByteArray) = p.1 := by
  apply ba_ext; rw [← h.1]
theorem result_same (a : ByteArray) (ha : a.size ≤ 1000000) (k : Nat) (hk : 20 ≤ k) : ∃ s, servermsg_Result.f a = some s ∧ miradorref23_Result.f k a = some s := by
  unfold servermsg_Result.f miradorref23_Result.f
  by_cases h0 : a.size = 0
  · have hn : a.toList = [] := ba_eq_nil.2 (ba_empty_size.1 h0)
    rw [if_pos h0, if_pos hn]
    obtain ⟨q1, e1, r1⟩ := rel_W (Rel.new true 0 rfl) (z := 4) (n := 0) (by decide) k (by omega) (Nat.zero_le _)
    have w1 := wInts_f 4 [0] (([], 0) : WS) (by decide)
    rw [pWs_one] at w1
    exact ⟨q1.1, bind_eq w1 (by rw [rel_bytes r1]), bind_eq e1 rfl⟩
  · have hn : ¬ a.toList = [] := fun h => h0 (ba_empty_size.2 (ba_eq_nil.1 h))
    rw [if_neg h0, if_neg hn, if_pos (by omega)]
    obtain ⟨q1, e1, r1⟩ := rel_W (Rel.new true 0 rfl) (z := 4) (n := 1) (by decide) k (by omega) (Nat.zero_le _)
    have w1 := wInts_f 4 [1] (([], 0) : WS) (by decide)
    rw [pWs_one] at w1
    have l1 := pW_len 4 ([], 0) 1
    rw [List.length_nil] at l1
    have hm : mn (a.size : Int) 4096 = ((min a.size 4096 : Nat) : Int) := by unfold mn; split <;> omega
    have hz : (a.extract 0 (min a.size 4096)).size ≤ 4096 := by rw [ba_size_extract]; omega
    obtain ⟨q2, e2, r2⟩ := rel_T r1 (a.extract 0 (min a.size 4096)) k (by omega) (by omega)
    refine ⟨q2.1, bind_eq w1 (bind_eq (wText_f _ _ (by omega)) (by rw [rel_bytes r2])), bind_eq e1 ?_⟩
    rw [hm, if_pos (by omega), if_pos (by omega), Int.toNat_natCast]
    exact bind_eq e2 rfl
/-! A message. -/
theorem pad_rel (n : Nat) (hn : n ≤ 100) : ∀ (d i : Nat) (k : Nat) (st : WS) (p : ByteArray × Bool), i + d = n → d + 1 ≤ k → st.1.length + d ≤ 100000 → Rel st p → ∃ q, miradorref22_Writer_Pad.l0 k (n : Int) (i : Int) p.1 p.2 = some q ∧ Rel (pWs 1 (List.replicate d 0) st) q
  | 0, i, k, st, p, hi, hk, hs, h => by
    obtain ⟨k, rfl⟩ : ∃ m, k = m + 1 := ⟨k - 1, by omega⟩
    simp only [miradorref22_Writer_Pad.l0]
    exact ⟨p, by rw [if_neg (by omega)], h⟩
  | d + 1, i, k, st, p, hi, hk, hs, h => by
    obtain ⟨k, rfl⟩ : ∃ m, k = m + 1 := ⟨k - 1, by omega⟩
    simp only [miradorref22_Writer_Pad.l0]
    have hz := h.size
    have f0 : fits 1 0 := .inl ⟨rfl, by decide⟩
    have hr : Rel (pW 1 st 0) (p.1 ++ (⟨#[0]⟩ : ByteArray), p.2) := by
      rw [pW_fits f0]
      exact ⟨by show st.1 ++ wL (beL 1 0) = (p.1 ++ (⟨#[0]⟩ : ByteArray)).data.toList; rw [ba_append, ← h.1]; rfl, h.2⟩
    have hl := pW_len 1 st 0
    have hl2 : (pW 1 st 0).1.length = st.1.length + 1 := by rw [pW_fits f0, List.length_append, wL_length]; rfl
    obtain ⟨q, e, hq⟩ := pad_rel n hn d (i + 1) k _ _ (by omega) (by omega) (by omega) hr
    refine ⟨q, ?_, hq⟩
    rw [if_pos (by omega), if_pos (by omega), show wrap64 ((i : Int) + 1) = ((i + 1 : Nat) : Int) by rw [w64 (by omega) (by omega)]; omega]
    exact e
theorem say_same (kind n : Int) (fl : Bool) (r0 r1 r2 r3 : Int) (f0 f1 : Int) (b0 b1 : Bool) (f2 f3 f4 f5 f6 f7 : Int) (l : List Int) (x : ByteArray) (hx : x.size ≤ 1000000) (hn : n ≤ 9223372036854775807) (k : Nat) (hk : 30 ≤ k) : Same2 (servermsg_Say.f kind fl n r0 r1 r2 r3 f0 f1 b0 b1 f2 f3 f4 f5 f6 f7 l x) (miradorref23_Say.f k kind fl n r0 r1 r2 r3 f0 f1 b0 b1 f2 f3 f4 f5 f6 f7 l x) := by
  unfold servermsg_Say.f miradorref23_Say.f
  by_cases h6 : kind = 6
  · rw [if_pos h6, if_pos h6]
    obtain ⟨q1, e1, r1⟩ := pad_rel 2 (by decide) 2 0 k ([], 0) (⟨#[]⟩, true) rfl (by omega) (by show 0 + 2 ≤ _; omega) (Rel.new true 0 rfl)
    have w1 := wInts_f 1 [0, 0] (([], 0) : WS) (by decide)
    have z1 := pWs_len 1 [0, 0] (([], 0) : WS)
    have w0 : pWs 1 (List.replicate 2 0) ([], 0) = pWs 1 [0, 0] ([], 0) := rfl
    rw [w0] at r1
    have z2 : ([0, 0] : List Int).length = 2 := rfl
    rw [z2, List.length_nil] at z1
    generalize pWs 1 [0, 0] ([], 0) = st at *
    obtain ⟨q2, e2, r2⟩ := rel_W r1 (z := 2) (n := n) hn k (by omega) (by omega)
    have w2 := wInts_f 2 [n] st (by rw [List.length_singleton]; omega)
    rw [pWs_one] at w2
    obtain ⟨a, b, d1, d2, d3⟩ := same_done r2
    exact ⟨a, b, bind_eq w1 (bind_eq w2 d1), bind_eq e1 (bind_eq e2 d2), d3⟩
  rw [if_neg h6, if_neg h6]
  by_cases h7 : kind = 7
  · rw [if_pos h7, if_pos h7]
    obtain ⟨q1, e1, r1⟩ := rel_W (Rel.new true 0 rfl) (z := 1) (n := 2) (by decide) k (by omega) (Nat.zero_le _)
    have w1 := wInts_f 1 [2] (([], 0) : WS) (by decide)
    rw [pWs_one] at w1
    obtain ⟨a, b, d1, d2, d3⟩ := same_done r1
    exact ⟨a, b, bind_eq w1 d1, bind_eq e1 d2, d3⟩
  rw [if_neg h7, if_neg h7]
  by_cases h5 : kind = 5
  · rw [if_pos h5, if_pos h5, if_pos (by omega)]
    obtain ⟨q1, e1, r1⟩ := rel_W (Rel.new true 0 rfl) (z := 1) (n := 3) (by decide) k (by omega) (Nat.zero_le _)
    have l1 := pW_len 1 ([], 0) 3
    rw [List.length_nil] at l1
    obtain ⟨q2, e2, r2⟩ := pad_rel 3 (by decide) 3 0 k _ q1 rfl (by omega) (by omega) r1
    have w1 := wInts_f 1 [3, 0, 0, 0] (([], 0) : WS) (by decide)
    have w0 : pWs 1 [3, 0, 0, 0] ([], 0) = pWs 1 (List.replicate 3 0) (pW 1 ([], 0) 3) := rfl
    have z1 := pWs_len 1 [3, 0, 0, 0] (([], 0) : WS)
    have z2 : ([3, 0, 0, 0] : List Int).length = 4 := rfl
    rw [z2, List.length_nil] at z1
    rw [w0] at w1 z1
    generalize pWs 1 (List.replicate 3 0) (pW 1 ([], 0) 3) = st at *
    obtain ⟨q3, e3, r3⟩ := rel_T r2 x k (by omega) (by omega)
    obtain ⟨a, b, d1, d2, d3⟩ := same_done r3
    exact ⟨a, b, bind_eq w1 (bind_eq (wText_f _ _ (by omega)) d1), bind_eq e1 (bind_eq e2 (bind_eq e3 d2)), d3⟩
  rw [if_neg h5, if_neg h5]
  exact same_done (st := ([], 1)) (p := (⟨#[]⟩, false)) ⟨rfl, rfl⟩
end Go.Proofs.Ytpackckoblpbfaa.H
namespace Go.Proofs.Ytpackckoblpbfaa.H
set_option linter.unusedVariables false
set_option linter.unusedSimpArgs false
open Go.RowKit Go.Proofs.Ytpackckoblpbfaa.X Go.Proofs.Ytpackckoblpbfaa.B Go.Proofs.Ytpackckoblpbfaa.O Go.Proofs.Ytpackckoblpbfaa.F Go.Proofs.YtpackckoblpbfaaW.PrintWords Go.Proofs.YtpackckoblpbfaaW.PrintLast Go.Proofs.YtpackckoblpbfaaW.PrintMore
theorem pieces_len' : ∀ (l : List (Int × Int)) (ys : List Int), pieces l = some ys → ys.length ≤ 4 * l.length
  | [], ys, h => by obtain rfl := Option.some.inj h; exact Nat.le_refl _
  | (z, n) :: l, ys, h => by
    simp only [pieces] at h
    by_cases hf : fits z n
    · rw [if_pos hf] at h
      obtain ⟨y, e1, rfl⟩ := Option.map_eq_some_iff.1 h
      have h1 := pieces_len' l y e1
      have h2 := beL_len4 hf
      rw [List.length_append, List.length_cons]; omega
    · rw [if_neg hf] at h; cases h
theorem joined_size (n d : Int) (bg tr : Bool) (m1 m2 m3 s1 s2 s3 : Int) : (joined (X.format_tens n d m1 m2 m3 s1 s2 s3 (X.format_bitI bg) (X.format_bitI tr)) []).size ≤ 1000 := by
  unfold joined
  split
  · exact Nat.zero_le _
  · rename_i ys h
    have := pieces_len' _ _ h
    rw [strOfNums_size]
    unfold X.format_tens at this
    simp at this ⊢
    omega
/-- An error stays. -/
theorem pW_err {z n : Int} {st : WS} (h : st.2 ≠ 0) : (pW z st n).2 = st.2 := by
  unfold pW
  split
  · rfl
  · show errW1 false 1 st.2 = _
    rw [errW1_false, if_neg h]
theorem pT_err {st : WS} {s : ByteArray} (h : st.2 ≠ 0) : (pT st s).2 = st.2 := by
  unfold pT
  rw [pA_2]
  have e : errW1 (decide ((s.size : Int) ≤ 4096)) 1 st.2 = st.2 := by
    cases decide ((s.size : Int) ≤ 4096) with
    | true => rw [errW1_true]
    | false => rw [errW1_false, if_neg h]
  rw [e]
  exact pW_err h
theorem doneS_err {st : WS} {e : Int} (h : st.2 = e) (h0 : e ≠ 0) : doneS st = (⟨#[]⟩, e) := by
  unfold doneS
  rw [if_pos (by rw [h]; exact h0), h]
theorem start_same (u0 u1 n d : Int) (bg tr : Bool) (m1 m2 m3 s1 s2 s3 : Int) (x : ByteArray) (hx : x.size ≤ 1000000) (a0 : u0 ≤ 9223372036854775807) (a1 : u1 ≤ 9223372036854775807) (k : Nat) (hk : 150 ≤ k) : Same2 (servermsg_Bytes.f u0 u1 n d bg tr m1 m2 m3 s1 s2 s3 x) (miradorref23_Bytes.f k u0 u1 n d bg tr m1 m2 m3 s1 s2 s3 x) := by
  unfold servermsg_Bytes.f miradorref23_Bytes.f
  obtain ⟨b, v1, v2, v3⟩ := valid_f k (by omega) n d bg tr m1 m2 m3 s1 s2 s3
  rw [if_pos (by omega), v1, v2, Option.bind_some, Option.bind_some]
  have fb := bytes_f n d bg tr m1 m2 m3 s1 s2 s3
  have fz := joined_size n d bg tr m1 m2 m3 s1 s2 s3
  generalize hJ : joined (X.format_tens n d m1 m2 m3 s1 s2 s3 (X.format_bitI bg) (X.format_bitI tr)) [] = J at *
  have zJ := ba_size J
  generalize he : errW1 (decide (u0 ≠ 0 ∧ u1 ≠ 0)) 1 (errW1 b 130 0) = e
  have zl : ([u0, u1] : List Int).length = 2 := rfl
  have w1 := wInts_f 2 [u0, u1] ([], e) (by rw [zl, List.length_nil]; omega)
  have w0 : pWs 2 [u0, u1] ([], e) = pW 2 (pW 2 ([], e) u0) u1 := rfl
  rw [w0] at w1
  have l1 := pW_len 2 ([], e) u0
  have l2 := pW_len 2 (pW 2 ([], e) u0) u1
  rw [List.length_nil] at l1
  cases b with
  | false =>
    rw [if_neg (by decide)]
    have e130 : e = 130 := by
      rw [← he, errW1_false 130 0, if_pos rfl]
      cases decide (u0 ≠ 0 ∧ u1 ≠ 0) with
      | true => exact errW1_true _ _
      | false => rw [errW1_false]; rfl
    have q1 : (pW 2 (pW 2 ([], e) u0) u1).2 = 130 := by
      have a : (pW 2 (([], e) : WS) u0).2 = 130 := (pW_err (by show e ≠ 0; rw [e130]; decide)).trans e130
      exact (pW_err (by rw [a]; decide)).trans a
    generalize pW 2 (pW 2 ([], e) u0) u1 = st at *
    have h130 : ∀ x : ByteArray, (pT (st.1 ++ J.data.toList, st.2) x).2 = 130 := fun x => (pT_err (st := (st.1 ++ J.data.toList, st.2)) (by show st.2 ≠ 0; rw [q1]; decide)).trans q1
    refine ⟨_, _, bind_eq w1 (bind_eq fb ((if_pos (by omega)).trans (bind_eq (wText_f (st.1 ++ J.data.toList, st.2) x (by show (st.1 ++ J.data.toList).length + _ ≤ _; rw [List.length_append]; omega)) rfl))), rfl, ?_, ?_⟩
    · rw [doneS_err (e := 130) (h130 x) (by decide)]
    · rw [doneS_err (e := 130) (h130 x) (by decide)]
  | true =>
    rw [if_pos rfl]
    have hv := v3.1 rfl
    have hb := hv.bits
    have hd := hv.depth
    have hn : n ≤ 32 := by omega
    have r1 := okP_m hv.p1
    have r2 := okP_m hv.p2
    have r3 := okP_m hv.p3
    have t1 := okP_s hn hv.p1
    have t2 := okP_s hn hv.p2
    have t3 := okP_s hn hv.p3
    have rb := rbytes_f k (by omega) n d bg tr m1 m2 m3 s1 s2 s3 (by omega) (by omega) (by omega) (by omega) (by omega) (by omega) (by omega) (by omega)
    rw [hJ] at rb
    rw [errW1_true] at he
    have fin : ∀ ok : Bool, e = (if ok = true then 0 else 1) → ∃ p q r : ByteArray × Bool, miradorref22_Writer_Int.f k (⟨#[]⟩ : ByteArray) ok 2 u0 = some p ∧ miradorref22_Writer_Int.f k p.1 p.2 2 u1 = some q ∧ q.1.size + J.size ≤ 9223372036854775807 ∧ miradorref23_long.f k (q.1 ++ J) q.2 x = some r ∧ Same2 (some (doneS (pT ((pW 2 (pW 2 ([], e) u0) u1).1 ++ J.data.toList, (pW 2 (pW 2 ([], e) u0) u1).2) x))) ((miradorref23_done.f r.1 r.2).bind fun b => some (b.1, b.2.1)) := fun ok hok => by
      obtain ⟨p, e1, p1⟩ := rel_W (Rel.new ok e hok) (z := 2) (n := u0) a0 k (by omega) (Nat.zero_le _)
      obtain ⟨q, e2, q1⟩ := rel_W p1 (z := 2) (n := u1) a1 k (by omega) (by omega)
      have hz := q1.size
      generalize pW 2 (pW 2 ([], e) u0) u1 = st at *
      have hr : Rel (st.1 ++ J.data.toList, st.2) (q.1 ++ J, q.2) := ⟨by show _ = (q.1 ++ J).data.toList; rw [ba_append, ← q1.1], q1.2⟩
      obtain ⟨r, e3, r3⟩ := rel_T hr x k (by omega) (by show (st.1 ++ J.data.toList).length + _ ≤ _; rw [List.length_append]; omega)
      exact ⟨p, q, r, e1, e2, by omega, e3, same_done r3⟩
    have go : ∀ ok : Bool, e = (if ok = true then 0 else 1) → Same2 ((wInts 2 [u0, u1] ([], e)).bind fun st => (format_Bytes.f n d bg tr m1 m2 m3 s1 s2 s3).bind fun s => if st.1.length + s.size ≤ 140737488351232 then (wText (st.1 ++ s.data.toList, st.2) x).bind fun st2 => some (doneS st2) else none)
        ((miradorref22_Writer_Int.f k (⟨#[]⟩ : ByteArray) ok 2 u0).bind fun bt269 => ((miradorref22_Writer_Int.f k bt269.1 bt269.2 2 u1).bind fun bt271 => ((miradorref13_Bytes.f k n d bg tr m1 m2 m3 s1 s2 s3).bind fun t273 => (if bt271.1.size + t273.size ≤ 9223372036854775807 then ((miradorref23_long.f k (bt271.1 ++ t273) bt271.2 x).bind fun bt274 => ((miradorref23_done.f bt274.1 bt274.2).bind fun bt276 => (some (bt276.1, bt276.2.1)))) else (none))))) := fun ok hok => by
      obtain ⟨p, q, r, e1, e2, hz, e3, y, z, d1, d2, d3⟩ := fin ok hok
      refine ⟨y, z, bind_eq w1 (bind_eq fb ((if_pos (by omega)).trans (bind_eq (wText_f _ x ?_) d1))), bind_eq e1 (bind_eq e2 (bind_eq rb ((if_pos hz).trans (bind_eq e3 d2)))), d3⟩
      show (_ ++ J.data.toList).length + _ ≤ _
      rw [List.length_append]; omega
    by_cases h0 : u0 = 0
    · rw [if_pos h0]
      exact go false (by rw [← he, decide_eq_false (fun h => h.1 h0), errW1_false]; rfl)
    · rw [if_neg h0]
      refine go (u1 != 0) ?_
      rw [← he]
      by_cases h1 : u1 = 0
      · rw [decide_eq_false (fun h => h.2 h1), errW1_false, h1]; rfl
      · rw [decide_eq_true ⟨h0, h1⟩, errW1_true, show (u1 != 0) = true by simpa using h1]; rfl
end Go.Proofs.Ytpackckoblpbfaa.H
namespace Go.Proofs.Ytpackckoblpbfaa.H
open Go.RowKit Go.Proofs.YtpackckoblpbfaaW.PrintWords Go.Proofs.YtpackckoblpbfaaW.PrintLast Go.Proofs.YtpackckoblpbfaaW.PrintMore Go.Proofs.Ytpackckoblpbfaa.B Go.Proofs.Ytpackckoblpbfaa.O Go.Proofs.Ytpackckoblpbfaa.F
set_option linter.unusedVariables false
set_option linter.unusedSimpArgs false
section
variable (ma : Int) (mb : Bool) (mc md me mf mg mh mi : Int) (mj mk : Bool) (ml mm mn mo mp mq : Int) (mz : List Int) (mr : ByteArray)
variable (ha hb hc hd he : Int)
variable (sa sb sc sd : Int) (se sf : Bool) (sg sh si sj sk sl : Int) (sm : ByteArray)
variable (l : List Int) (a : ByteArray)
theorem ServermsgWrites_pure (hl : ∀ x ∈ l, x ≤ 9223372036854775807) (wa : ha ≤ 9223372036854775807) (wb : hb ≤ 9223372036854775807) (wc : hc ≤ 9223372036854775807) (wd : hd ≤ 9223372036854775807) (w0 : -9223372036854775808 ≤ he) (w1 : he ≤ 9223372036854775807) (wm : mc ≤ 9223372036854775807) (ws : sa ≤ 9223372036854775807) (wt : sb ≤ 9223372036854775807) : X.miradorlaw23_ServermsgWrites.f 501 l a sa sb sc sd se sf sg sh si sj sk sl sm ha hb hc hd he ma mb mc md me mf mg mh mi mj mk ml mm mn mo mp mq mz mr = some true := by
  have tr : ∀ k, X.miradorlaw23_ServermsgWrites.j0 (k + 1) l a true true sa sb sc sd se sf sg sh si sj sk sl sm ha hb hc hd he ma mb mc md me mf mg mh mi mj mk ml mm mn mo mp mq mz mr = some true := fun k => by
    simp only [X.miradorlaw23_ServermsgWrites.j0, if_true]
  unfold X.miradorlaw23_ServermsgWrites.f
  refine bind_eq X.miradorlaw23_works.at0 ?_
  rw [if_pos rfl]
  by_cases c1 : (l.length : Int) > 300
  · rw [if_pos c1]; exact tr 500
  rw [if_neg c1]
  by_cases c2 : (a.size : Int) > 5000
  · rw [if_pos c2]; exact tr 500
  rw [if_neg c2]
  by_cases c3 : (sm.size : Int) > 5000
  · rw [if_pos c3]; exact tr 500
  rw [if_neg c3]
  by_cases c4 : (mr.size : Int) > 5000
  · rw [decide_eq_true c4]; exact tr 500
  rw [decide_eq_false c4]
  show X.miradorlaw23_ServermsgWrites.j0 (500 + 1) l a true false _ _ _ _ _ _ _ _ _ _ _ _ _ _ _ _ _ _ _ _ _ _ _ _ _ _ _ _ _ _ _ _ _ _ _ _ _ = _
  simp only [X.miradorlaw23_ServermsgWrites.j0]
  rw [if_neg (by decide)]
  obtain ⟨p1, q1, e1, f1, g1, i1⟩ := kinds_same l hl (by omega) 500 (by omega)
  obtain ⟨p2, q2, e2, f2, g2, i2⟩ := start_same sa sb sc sd se sf sg sh si sj sk sl sm (by omega) ws wt 500 (by omega)
  obtain ⟨p3, q3, e3, f3, g3, i3⟩ := put_same ha hb hc hd he wa wb wc wd w0 w1 500 (by omega)
  obtain ⟨p4, q4, e4, f4, g4, i4⟩ := say_same ma mc mb md me mf mg mh mi mj mk ml mm mn mo mp mq mz mr (by omega) wm 500 (by omega)
  obtain ⟨s, e5, f5⟩ := result_same a (by omega) 500 (by omega)
  refine bind_eq e1 (bind_eq f1 (bind_eq e2 (bind_eq f2 (bind_eq e3 (bind_eq f3 (bind_eq e4 (bind_eq f4 ?_)))))))
  rw [if_pos trivial, if_pos (by rw [g1]), if_pos i1, if_pos (by rw [g2]), if_pos i2, if_pos (by rw [g3]), if_pos i3, if_pos (by rw [g4]), if_pos i4]
  exact bind_eq e5 (bind_eq f5 (by simp))
end
theorem ServermsgWrites_walk (A : Option Addr) (len cap : Nat) (z : List Int) (a : ByteArray) (sa sb sc sd : Int) (se sf : Bool) (sg sh si sj sk sl : Int) (sm : ByteArray) (ha hb hc hd he : Int) (ma : Int) (mb : Bool) (mc md me mf mg mh mi : Int) (mj mk : Bool) (ml mm mn mo mp mq : Int) (mA : Option Addr) (mz : List Int) (mC : Nat) (mr : ByteArray) (W : World)
    (hzz : (A = none ∧ len = 0 ∧ cap = 0 ∧ z = []) ∨ ∃ x, A = some x ∧ len ≤ cap ∧ cap ≤ maxLen ∧ z.length = cap ∧ (∀ i, i < z.length → W.cell? (x.add i) = some (.int .i64 (z.getD i 0))) ∧ ∀ n ∈ z, (Lit.int .i64 n).wf = true)
    (y0 : len * 8 ≤ 140737488351232) (y1 : a.size ≤ 140737488351232) (ta : (Lit.int .i64 sa).wf = true) (tb : (Lit.int .i64 sb).wf = true) (tc : (Lit.int .i64 sc).wf = true) (td : (Lit.int .i64 sd).wf = true) (tg : (Lit.int .i64 sg).wf = true) (th : (Lit.int .i64 sh).wf = true) (ti : (Lit.int .i64 si).wf = true) (tj : (Lit.int .i64 sj).wf = true) (tk : (Lit.int .i64 sk).wf = true) (tl : (Lit.int .i64 sl).wf = true) (tm : sm.size ≤ maxLen)
    (ja : (Lit.int .i64 ha).wf = true) (jb : (Lit.int .i64 hb).wf = true) (jc : (Lit.int .i64 hc).wf = true) (jd : (Lit.int .i64 hd).wf = true) (je : (Lit.int .i64 he).wf = true)
    (na : (Lit.int .i64 ma).wf = true) (nc : (Lit.int .i64 mc).wf = true) (nd : (Lit.int .i64 md).wf = true) (ne : (Lit.int .i64 me).wf = true) (nf : (Lit.int .i64 mf).wf = true) (ng : (Lit.int .i64 mg).wf = true) (nh : (Lit.int .i64 mh).wf = true) (ni : (Lit.int .i64 mi).wf = true) (nl : (Lit.int .i64 ml).wf = true) (nm : (Lit.int .i64 mm).wf = true) (nn : (Lit.int .i64 mn).wf = true) (no : (Lit.int .i64 mo).wf = true) (np : (Lit.int .i64 mp).wf = true) (nq : (Lit.int .i64 mq).wf = true)
    (nr : Kd.C (Kd.int .i64) W mA mz.length mz) (ny : mz.length ≤ mC) (ns : mr.size ≤ maxLen) :
    Calls Try.prog 3 #[.slice A len cap, .string a, .agg #[.int .i64 sa, .int .i64 sb, .int .i64 sc, .int .i64 sd, .bool se, .bool sf, .int .i64 sg, .int .i64 sh, .int .i64 si, .int .i64 sj, .int .i64 sk, .int .i64 sl, .string sm], .agg #[.int .i64 ha, .int .i64 hb, .int .i64 hc, .int .i64 hd, .int .i64 he], .agg #[.int .i64 ma, .bool mb, .int .i64 mc, .int .i64 md, .int .i64 me, .int .i64 mf, .int .i64 mg, .int .i64 mh, .int .i64 mi, .bool mj, .bool mk, .int .i64 ml, .int .i64 mm, .int .i64 mn, .int .i64 mo, .int .i64 mp, .int .i64 mq, .slice mA mz.length mC, .string mr]] W fun e W' => e = .returned (.bool true) ∧ Below W.heap.size W W' := by
  obtain ⟨l, rfl, hr, hm, hwf, hcap⟩ := ReadsInt.ofRowC hzz
  have w := wf64 je
  exact X.miradorlaw23_ServermsgWrites.calls1 501 A cap l a sa sb sc sd se sf sg sh si sj sk sl sm ha hb hc hd he ma mb mc md me mf mg mh mi mj mk ml mm mn mo mp mq mA mC mz mr true W (Kd.C_of_reads (d := (0 : Int)) (h1 := fun _ => rfl) hr) hcap nr ny rfl (ServermsgWrites_pure ma mb mc md me mf mg mh mi mj mk ml mm mn mo mp mq mz mr ha hb hc hd he sa sb sc sd se sf sg sh si sj sk sl sm l a (fun x hx => (wf64 (hwf x hx)).2) (wf64 ja).2 (wf64 jb).2 (wf64 jc).2 (wf64 jd).2 w.1 w.2 (wf64 nc).2 (wf64 ta).2 (wf64 tb).2)
end Go.Proofs.Ytpackckoblpbfaa.H
