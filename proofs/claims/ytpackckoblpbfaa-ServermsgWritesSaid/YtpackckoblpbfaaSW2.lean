import Derived.Test.YtpackckoblpbfaaOS
import Derived.Test.YtpackckoblpbfaaXx7
import Derived.Test.YtpackckoblpbfaaXx8
/-! What a writer writes, in plain lists. -/
namespace Go.Proofs.Ytpackckoblpbfaa.H
set_option linter.unusedVariables false
set_option linter.unusedSimpArgs false
open Go.RowKit Go.Proofs.Ytpackckoblpbfaa.X Go.Proofs.Ytpackckoblpbfaa.B Go.Proofs.Ytpackckoblpbfaa.O Go.Proofs.YtpackckoblpbfaaW.PrintWords Go.Proofs.YtpackckoblpbfaaW.PrintLast Go.Proofs.YtpackckoblpbfaaW.PrintMore
abbrev WS := List UInt8 × Int
/-- Bytes as a list. -/
def wL (bs : List Int) : List UInt8 := (strOfNums bs).data.toList
theorem wL_append (a b : List Int) : wL (a ++ b) = wL a ++ wL b := by unfold wL; rw [← str_append, ba_append]
theorem wL_nil : wL [] = [] := rfl
theorem wL_bytes (s : ByteArray) : wL (bytesOf s) = s.data.toList := by unfold wL; rw [str_bytes]
theorem wL_length (bs : List Int) : (wL bs).length = bs.length := by unfold wL; rw [← ba_size, strOfNums_size]
theorem wL_arr (bs : List Int) : (⟨(wL bs).toArray⟩ : ByteArray) = strOfNums bs := ba_ext (by unfold wL; simp)
theorem errW1_true (e err : Int) : errW1 true e err = err := if_neg (fun h => by cases h.1)
theorem errW1_false (e err : Int) : errW1 false e err = if err = 0 then e else err := by
  unfold errW1
  by_cases h : err = 0
  · rw [if_pos ⟨rfl, h⟩, if_pos h]
  · rw [if_neg (fun k => h k.2), if_neg h]
/-- A check's own error, or none. -/
theorem errW1_zero {ok : Bool} {e err : Int} (he : e ≠ 0) (h : errW1 ok e err = 0) : ok = true ∧ err = 0 := by
  cases ok with
  | true => exact ⟨rfl, by rw [errW1_true] at h; exact h⟩
  | false =>
    rw [errW1_false] at h
    by_cases k : err = 0
    · rw [if_pos k] at h; exact absurd h he
    · rw [if_neg k] at h; exact absurd h k
/-- A number is written, or an error is noted. -/
def pW (z : Int) (st : WS) (n : Int) : WS := if fits z n then (st.1 ++ wL (beL z n), st.2) else (st.1, errW1 false 1 st.2)
theorem wI_f (st : WS) (z n : Int) (h : st.1.length ≤ 140737488351000) : wI st z n = some (pW z st n) := by
  unfold wI pW
  refine bind_eq (Put_f (by decide) z n) ?_
  by_cases hf : fits z n
  · have := beL_length hf
    have hz : (strOfNums (beL z n)).size ≤ 4 := by
      rw [strOfNums_size]
      unfold fits at hf
      omega
    rw [if_pos hf, if_pos hf, if_pos (by show st.1.length + (strOfNums (beL z n)).size ≤ _; omega)]
    show some (st.1 ++ (strOfNums (beL z n)).data.toList, errW1 true 1 st.2) = _
    rw [errW1_true]; rfl
  · rw [if_neg hf, if_neg hf, if_pos (by show st.1.length + 0 ≤ _; omega)]
    show some (st.1 ++ [], errW1 false 1 st.2) = _
    rw [List.append_nil]
theorem pW_len (z : Int) (st : WS) (n : Int) : (pW z st n).1.length ≤ st.1.length + 4 := by
  unfold pW
  by_cases hf : fits z n
  · have := beL_length hf
    rw [if_pos hf, List.length_append, wL_length]
    unfold fits at hf
    omega
  · rw [if_neg hf]; show st.1.length ≤ _; omega
theorem pW_ok {z : Int} {st : WS} {n : Int} (h : (pW z st n).2 = 0) : st.2 = 0 ∧ fits z n ∧ (pW z st n).1 = st.1 ++ wL (beL z n) := by
  unfold pW at h ⊢
  by_cases hf : fits z n
  · rw [if_pos hf] at h ⊢
    exact ⟨h, hf, rfl⟩
  · rw [if_neg hf] at h
    exact absurd (errW1_zero (by decide) h).1 (by decide)
def pWs (z : Int) (l : List Int) (st : WS) : WS := l.foldl (pW z) st
theorem wInts_f (z : Int) : ∀ (l : List Int) (st : WS), st.1.length + 4 * l.length ≤ 140737488351000 → wInts z l st = some (pWs z l st)
  | [], st, h => rfl
  | n :: l, st, h => by
    rw [List.length_cons] at h
    show (wI st z n).bind _ = _
    rw [wI_f st z n (by omega)]
    have := pW_len z st n
    exact wInts_f z l _ (by omega)
theorem pWs_len (z : Int) : ∀ (l : List Int) (st : WS), (pWs z l st).1.length ≤ st.1.length + 4 * l.length
  | [], st => by show st.1.length ≤ _; omega
  | n :: l, st => by
    have h1 := pW_len z st n
    have h2 := pWs_len z l (pW z st n)
    rw [List.length_cons]
    show (pWs z l (pW z st n)).1.length ≤ _
    omega
theorem pWs_ok {z : Int} : ∀ {l : List Int} {st : WS}, (pWs z l st).2 = 0 → st.2 = 0 ∧ (∀ n ∈ l, fits z n) ∧ (pWs z l st).1 = st.1 ++ wL (l.flatMap (beL z))
  | [], st, h => ⟨h, (fun n hn => by cases hn), by show st.1 = _; simp [wL_nil]⟩
  | n :: l, st, h => by
    obtain ⟨h1, h2, h3⟩ := pWs_ok (l := l) (st := pW z st n) h
    obtain ⟨k1, k2, k3⟩ := pW_ok h1
    refine ⟨k1, fun m hm => ?_, ?_⟩
    · rcases List.mem_cons.1 hm with rfl | hm
      · exact k2
      · exact h2 m hm
    · show (pWs z l (pW z st n)).1 = _
      rw [h3, k3, List.flatMap_cons, wL_append, List.append_assoc]
theorem pW_fits {z n : Int} {st : WS} (h : fits z n) : pW z st n = (st.1 ++ wL (beL z n), st.2) := if_pos h
theorem pWs_one (z : Int) (n : Int) (st : WS) : pWs z [n] st = pW z st n := rfl
def pA (q : WS) (s : ByteArray) : WS := (q.1 ++ s.data.toList, q.2)
theorem pA_1 (q : WS) (s : ByteArray) : (pA q s).1 = q.1 ++ s.data.toList := rfl
theorem pA_2 (q : WS) (s : ByteArray) : (pA q s).2 = q.2 := rfl
/-- A text, with its length. -/
def pT (st : WS) (s : ByteArray) : WS := pA (pW 4 (st.1, errW1 (decide ((s.size : Int) ≤ 4096)) 1 st.2) (s.size : Int)) s
theorem wText_q (q : WS) (s : ByteArray) (z : Int) (h : q.1.length + s.size ≤ 140737488350000) : ((wInts z [(s.size : Int)] q).bind fun st1 => if st1.1.length + s.size ≤ 140737488351232 then some (st1.1 ++ s.data.toList, st1.2) else none) = some (pA (pW z q (s.size : Int)) s) := by
  generalize hm : ((s.size : Nat) : Int) = m
  have h1 := pW_len z q m
  refine bind_eq (wInts_f z [m] q (by rw [List.length_singleton]; omega)) ?_
  rw [pWs_one, if_pos (by omega)]
  rfl
theorem wText_f (st : WS) (s : ByteArray) (h : st.1.length + s.size ≤ 140737488350000) : wText st s = some (pT st s) := by
  unfold wText pT
  have h2 := wText_q (st.1, errW1 (decide ((s.size : Int) ≤ 4096)) 1 st.2) s 4 h
  with_reducible exact h2
theorem pT_q {z : Int} {x : List UInt8} {e : Int} {s : ByteArray} (h : (pA (pW z (x, e) (s.size : Int)) s).2 = 0) : e = 0 ∧ (pA (pW z (x, e) (s.size : Int)) s).1 = x ++ wL (beL z (s.size : Int) ++ bytesOf s) := by
  rw [pA_2] at h
  obtain ⟨h1, h2, h3⟩ := pW_ok h
  refine ⟨h1, ?_⟩
  rw [pA_1, h3, wL_append, wL_bytes, List.append_assoc]
theorem pT_ok {st : WS} {s : ByteArray} (h : (pT st s).2 = 0) : st.2 = 0 ∧ s.size ≤ 4096 ∧ (pT st s).1 = st.1 ++ wL (beL 4 (s.size : Int) ++ bytesOf s) := by
  unfold pT at h ⊢
  obtain ⟨h1, h3⟩ := pT_q h
  obtain ⟨k1, k2⟩ := errW1_zero (e := 1) (by decide) h1
  exact ⟨k2, by have := of_decide_eq_true k1; omega, h3⟩
theorem doneS_ok {st : WS} (h : (doneS st).2 = 0) : st.2 = 0 ∧ (doneS st).1 = ⟨st.1.toArray⟩ := by
  unfold doneS at h ⊢
  by_cases k : st.2 = 0
  · rw [if_neg (fun h => h k)]; exact ⟨k, rfl⟩
  · rw [if_pos k] at h; exact absurd h k
theorem flat_range {z : Int} {l : List Int} (h : ∀ n ∈ l, fits z n) : ∀ x ∈ l.flatMap (beL z), 0 ≤ x ∧ x < 256 := fun x hx => by
  obtain ⟨n, hn, hx⟩ := List.mem_flatMap.1 hx
  exact beL_range (h n hn) x hx
theorem text_range (s : ByteArray) (h : s.size ≤ 4096) : ∀ x ∈ beL 4 (s.size : Int) ++ bytesOf s, 0 ≤ x ∧ x < 256 := fun x hx => by
  rcases List.mem_append.1 hx with hx | hx
  · exact beL_range (.inr (.inr ⟨rfl, by omega⟩)) x hx
  · exact bytes_range s x hx
theorem beL4_len (n : Int) : (beL 4 n).length = 4 := rfl
theorem sgL_size (n : Int) : (sgL n).size ≤ 4 := by
  unfold sgL
  split
  · rw [strOfNums_size, beL4_len]; omega
  · exact Nat.zero_le _
end Go.Proofs.Ytpackckoblpbfaa.H
