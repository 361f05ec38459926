import Derived.Test.YtclikkhkhoicfaaCL4
import Derived.Test.YtclikkhkhoicfaaOS
import Derived.Test.YtclikkhkhoicfaaXx12
import Derived.Test.YtclikkhkhoicfaaXx14
/-! What is written. -/
namespace Go.Proofs.Ytclikkhkhoicfaa.H
set_option linter.unusedVariables false
set_option linter.unusedSimpArgs false
open Go.RowKit Go.Proofs.Ytclikkhkhoicfaa.X Go.Proofs.Ytclikkhkhoicfaa.B Go.Proofs.Ytclikkhkhoicfaa.O Go.Proofs.Ytclikkhkhoicfaa.F Go.Proofs.YtclikkhkhoicfaaW.PrintWords Go.Proofs.YtclikkhkhoicfaaW.PrintLast Go.Proofs.YtclikkhkhoicfaaW.PrintMore
abbrev WS := List UInt8 × Bool
/-- Bytes as a list. -/
def wL (bs : List Int) : List UInt8 := (strOfNums bs).data.toList
theorem wL_append (a b : List Int) : wL (a ++ b) = wL a ++ wL b := by unfold wL; rw [← str_append, ba_append]
theorem wL_nil : wL [] = [] := rfl
theorem wL_bytes (s : ByteArray) : wL (bytesOf s) = s.data.toList := by unfold wL; rw [str_bytes]
theorem wL_length (bs : List Int) : (wL bs).length = bs.length := by unfold wL; rw [← ba_size, strOfNums_size]
theorem wL_arr (bs : List Int) : (⟨(wL bs).toArray⟩ : ByteArray) = strOfNums bs := ba_ext (by unfold wL; simp)
/-- A number is written, or noted as wrong. -/
def pW (z : Int) (st : WS) (n : Int) : WS := if fits z n then (st.1 ++ wL (beL z n), st.2) else (st.1, true)
theorem wI_f (st : WS) (z n : Int) (h : st.1.length ≤ 140737488351000) : wI st z n = some (pW z st n) := by
  unfold wI pW
  refine bind_eq (Put_f (by decide) z n) ?_
  by_cases hf : fits z n
  · have := beL_length hf
    have hz : (strOfNums (beL z n)).size ≤ 4 := by
      rw [strOfNums_size]
      unfold fits at hf
      omega
    rw [if_pos hf, if_pos hf, if_pos (by show st.1.length + (strOfNums (beL z n)).size ≤ _; omega)]
    show some (st.1 ++ (strOfNums (beL z n)).data.toList, st.2 || ((0 : Int) != 0)) = _
    rw [show ((0 : Int) != 0) = false from rfl, Bool.or_false]; rfl
  · rw [if_neg hf, if_neg hf, if_pos (by show st.1.length + 0 ≤ _; omega)]
    show some (st.1 ++ [], st.2 || ((1 : Int) != 0)) = _
    rw [List.append_nil, show ((1 : Int) != 0) = true from rfl, Bool.or_true]
theorem pW_len (z : Int) (st : WS) (n : Int) : (pW z st n).1.length ≤ st.1.length + 4 := by
  unfold pW
  by_cases hf : fits z n
  · have := beL_length hf
    rw [if_pos hf, List.length_append, wL_length]
    unfold fits at hf
    omega
  · rw [if_neg hf]; show st.1.length ≤ _; omega
theorem pW_ok {z : Int} {st : WS} {n : Int} (h : (pW z st n).2 = false) : st.2 = false ∧ fits z n := by
  unfold pW at h
  by_cases hf : fits z n
  · rw [if_pos hf] at h
    exact ⟨h, hf⟩
  · rw [if_neg hf] at h
    cases h
def pWs (z : Int) (l : List Int) (st : WS) : WS := l.foldl (pW z) st
theorem wInts_f (z : Int) : ∀ (l : List Int) (st : WS), st.1.length + 4 * l.length ≤ 140737488351000 → wInts z l st = some (pWs z l st)
  | [], st, h => rfl
  | n :: l, st, h => by
    rw [List.length_cons] at h
    show (wI st z n).bind _ = _
    rw [wI_f st z n (by omega)]
    have := pW_len z st n
    exact wInts_f z l _ (by omega)
theorem pWs_len (z : Int) : ∀ (l : List Int) (st : WS), (pWs z l st).1.length ≤ st.1.length + 4 * l.length
  | [], st => by show st.1.length ≤ _; omega
  | n :: l, st => by
    have h1 := pW_len z st n
    have h2 := pWs_len z l (pW z st n)
    rw [List.length_cons]
    show (pWs z l (pW z st n)).1.length ≤ _
    omega
theorem pWs_ok {z : Int} : ∀ {l : List Int} {st : WS}, (pWs z l st).2 = false → st.2 = false ∧ (∀ n ∈ l, fits z n)
  | [], st, h => ⟨h, (fun n hn => by cases hn)⟩
  | n :: l, st, h => by
    obtain ⟨h1, h2⟩ := pWs_ok (l := l) (st := pW z st n) h
    obtain ⟨k1, k2⟩ := pW_ok h1
    exact ⟨k1, fun m hm => (List.mem_cons.1 hm).elim (fun e => by rw [e]; exact k2) (h2 m)⟩
theorem pW_fits {z n : Int} {st : WS} (h : fits z n) : pW z st n = (st.1 ++ wL (beL z n), st.2) := if_pos h
theorem pWs_fits {z : Int} : ∀ {l : List Int} {st : WS}, (∀ n ∈ l, fits z n) → pWs z l st = (st.1 ++ wL (l.flatMap (beL z)), st.2)
  | [], st, h => by show st = _; rw [List.flatMap_nil, wL_nil, List.append_nil]
  | n :: l, st, h => by
    show pWs z l (pW z st n) = _
    rw [pW_fits (h n (List.mem_cons_self ..)), pWs_fits (fun m hm => h m (List.mem_cons_of_mem _ hm)), List.flatMap_cons, wL_append, List.append_assoc]
/-! Numbers with a sign. -/
instance (n : Int) : Decidable (R32 n) := by unfold R32; infer_instance
theorem str_ne {bs : List Int} (h : bs.length ≠ 0) : (strOfNums bs).toList.isEmpty = false := by
  rw [ba_toList]
  have h2 : (strOfNums bs).data.toList.length = bs.length := by rw [← ba_size, strOfNums_size]
  cases hl : (strOfNums bs).data.toList with
  | nil => rw [hl] at h2; exact absurd h2.symm h
  | cons a l => rfl
theorem nil_empty : (⟨#[]⟩ : ByteArray).toList.isEmpty = true := by rw [ba_toList]; rfl
def pS (st : WS) (n : Int) : WS := if R32 n then (st.1 ++ wL (beL 4 (n % 4294967296)), st.2) else (st.1, true)
def I64 (n : Int) : Prop := -9223372036854775808 ≤ n ∧ n ≤ 9223372036854775807
theorem wS_f (st : WS) (n : Int) (hn : I64 n) (h : st.1.length ≤ 140737488351000) : wS st n = some (pS st n) := by
  unfold wS pS
  refine bind_eq (Signed_f (by decide) n hn.1 hn.2) ?_
  unfold sgL
  by_cases hf : R32 n
  · rw [if_pos (show -2147483648 ≤ n ∧ n ≤ 2147483647 from hf), if_pos hf, if_pos (by rw [strOfNums_size, bl4]; omega)]
    have e := str_ne (bs := beL 4 (n % 4294967296)) (by rw [bl4]; decide)
    rw [e, Bool.or_false]; rfl
  · rw [if_neg (show ¬ (-2147483648 ≤ n ∧ n ≤ 2147483647) from hf), if_neg hf, if_pos (by show st.1.length + 0 ≤ _; omega)]
    rw [nil_empty, Bool.or_true]
    show some (st.1 ++ [], true) = _
    rw [List.append_nil]
theorem pS_len (st : WS) (n : Int) : (pS st n).1.length ≤ st.1.length + 4 := by
  unfold pS
  by_cases hf : R32 n
  · rw [if_pos hf, List.length_append, wL_length, bl4]; omega
  · rw [if_neg hf]; show st.1.length ≤ _; omega
def pSs (l : List Int) (st : WS) : WS := l.foldl pS st
theorem wSs_f : ∀ (l : List Int) (st : WS), (∀ x ∈ l, I64 x) → st.1.length + 4 * l.length ≤ 140737488351000 → wSs l st = some (pSs l st)
  | [], st, _, h => rfl
  | n :: l, st, hi, h => by
    rw [List.length_cons] at h
    show (wS st n).bind _ = _
    rw [wS_f st n (hi n (List.mem_cons_self ..)) (by omega)]
    have := pS_len st n
    exact wSs_f l _ (fun x hx => hi x (List.mem_cons_of_mem _ hx)) (by omega)
theorem pSs_len : ∀ (l : List Int) (st : WS), (pSs l st).1.length ≤ st.1.length + 4 * l.length
  | [], st => by show st.1.length ≤ _; omega
  | n :: l, st => by
    have h1 := pS_len st n
    have h2 := pSs_len l (pS st n)
    rw [List.length_cons]
    show (pSs l (pS st n)).1.length ≤ _
    omega
theorem pS_ok {st : WS} {n : Int} (h : (pS st n).2 = false) : st.2 = false ∧ R32 n := by
  unfold pS at h
  by_cases hf : R32 n
  · rw [if_pos hf] at h
    exact ⟨h, hf⟩
  · rw [if_neg hf] at h
    cases h
theorem pSs_ok : ∀ {l : List Int} {st : WS}, (pSs l st).2 = false → st.2 = false ∧ (∀ n ∈ l, R32 n)
  | [], st, h => ⟨h, (fun n hn => by cases hn)⟩
  | n :: l, st, h => by
    obtain ⟨h1, h2⟩ := pSs_ok (l := l) (st := pS st n) h
    obtain ⟨k1, k2⟩ := pS_ok h1
    exact ⟨k1, fun m hm => (List.mem_cons.1 hm).elim (fun e => by rw [e]; exact k2) (h2 m)⟩
theorem pSs_fits : ∀ {l : List Int} {st : WS}, (∀ n ∈ l, R32 n) → pSs l st = (st.1 ++ wL (l.flatMap fun x => beL 4 (x % 4294967296)), st.2)
  | [], st, h => by show st = _; rw [List.flatMap_nil, wL_nil, List.append_nil]
  | n :: l, st, h => by
    show pSs l (pS st n) = _
    have e : pS st n = (st.1 ++ wL (beL 4 (n % 4294967296)), st.2) := if_pos (h n (List.mem_cons_self ..))
    rw [e, pSs_fits (fun m hm => h m (List.mem_cons_of_mem _ hm)), List.flatMap_cons, wL_append, List.append_assoc]
theorem endB_ok {st : WS} (h : (endB st).2 = 0) : st.2 = false := by
  unfold endB at h
  cases hb : st.2 with
  | false => rfl
  | true => rw [if_pos hb] at h; exact absurd (show (1 : Int) = 0 from h) (by decide)
theorem endB_bad {st : WS} (h : (endB st).2 ≠ 0) : (endB st).1 = ⟨#[]⟩ := by
  unfold endB at h ⊢
  by_cases hb : st.2 = true
  · rw [if_pos hb]
  · rw [if_neg hb] at h; exact absurd rfl h
theorem endB_yes (bs : List Int) : endB (wL bs, false) = (strOfNums bs, 0) := by
  unfold endB
  rw [if_neg (fun h => by cases h)]
  show ((⟨(wL bs).toArray⟩ : ByteArray), (0 : Int)) = _
  rw [wL_arr]
theorem endB_len (st : WS) : (endB st).1.size ≤ st.1.length := by
  unfold endB
  split
  · exact Nat.zero_le _
  · show (List.toArray _).size ≤ _
    rw [List.size_toArray]; omega
theorem bit_f (b : Bool) : clientmsg_bit.f b = some (bitN b) := by cases b <;> rfl
theorem pieces_len : ∀ (l : List (Int × Int)) (ys : List Int), pieces l = some ys → ys.length ≤ 4 * l.length
  | [], ys, h => by obtain rfl := Option.some.inj h; exact Nat.le_refl _
  | (z, n) :: l, ys, h => by
    simp only [pieces] at h
    by_cases hf : fits z n
    · rw [if_pos hf] at h
      obtain ⟨y, e1, rfl⟩ := Option.map_eq_some_iff.1 h
      have h1 := pieces_len l y e1
      have h2 := beL_len4 hf
      rw [List.length_append, List.length_cons]; omega
    · rw [if_neg hf] at h; cases h
abbrev P19 := Int × Bool × Int × Int × Int × Int × Int × Int × Int × Bool × Bool × Int × Int × Int × Int × Int × Int × List Int × ByteArray
def p19 (m : M20) : P19 := (m.1, m.2.1, m.2.2.1, m.2.2.2.1, m.2.2.2.2.1, m.2.2.2.2.2.1, m.2.2.2.2.2.2.1, m.2.2.2.2.2.2.2.1, m.2.2.2.2.2.2.2.2.1, m.2.2.2.2.2.2.2.2.2.1, m.2.2.2.2.2.2.2.2.2.2.1, m.2.2.2.2.2.2.2.2.2.2.2.1, m.2.2.2.2.2.2.2.2.2.2.2.2.1, m.2.2.2.2.2.2.2.2.2.2.2.2.2.1, m.2.2.2.2.2.2.2.2.2.2.2.2.2.2.1, m.2.2.2.2.2.2.2.2.2.2.2.2.2.2.2.1, m.2.2.2.2.2.2.2.2.2.2.2.2.2.2.2.2.1, m.2.2.2.2.2.2.2.2.2.2.2.2.2.2.2.2.2.1, m.2.2.2.2.2.2.2.2.2.2.2.2.2.2.2.2.2.2.1)
def bytes19 (p : P19) : Option (ByteArray × Int) := clientmsg_Bytes.f p.1 p.2.1 p.2.2.1 p.2.2.2.1 p.2.2.2.2.1 p.2.2.2.2.2.1 p.2.2.2.2.2.2.1 p.2.2.2.2.2.2.2.1 p.2.2.2.2.2.2.2.2.1 p.2.2.2.2.2.2.2.2.2.1 p.2.2.2.2.2.2.2.2.2.2.1 p.2.2.2.2.2.2.2.2.2.2.2.1 p.2.2.2.2.2.2.2.2.2.2.2.2.1 p.2.2.2.2.2.2.2.2.2.2.2.2.2.1 p.2.2.2.2.2.2.2.2.2.2.2.2.2.2.1 p.2.2.2.2.2.2.2.2.2.2.2.2.2.2.2.1 p.2.2.2.2.2.2.2.2.2.2.2.2.2.2.2.2.1 p.2.2.2.2.2.2.2.2.2.2.2.2.2.2.2.2.2.1 p.2.2.2.2.2.2.2.2.2.2.2.2.2.2.2.2.2.2
theorem wr2 {z y : Int} {l k : List Int} (hl : ∀ n ∈ l, fits z n) (hk : ∀ n ∈ k, fits y n) (h1 : l.length ≤ 10) (h2 : k.length ≤ 10) : (wInts z l ([], false)).bind (fun st => (wInts y k st).bind fun st2 => some (endB st2)) = some (strOfNums (l.flatMap (beL z) ++ k.flatMap (beL y)), 0) := by
  have a := wInts_f z l ([], false) (by rw [List.length_nil]; omega)
  have z1 := pWs_len z l ([], false)
  rw [List.length_nil] at z1
  have b := wInts_f y k (pWs z l ([], false)) (by omega)
  refine bind_eq a (bind_eq b ?_)
  rw [pWs_fits hk, pWs_fits hl, List.nil_append, ← wL_append, endB_yes]
theorem wr2_any (z y : Int) (l k : List Int) (h1 : l.length ≤ 10) (h2 : k.length ≤ 10) : ∃ r : ByteArray × Int, (wInts z l ([], false)).bind (fun st => (wInts y k st).bind fun st2 => some (endB st2)) = some r ∧ (r.2 = 0 → (∀ n ∈ l, fits z n) ∧ (∀ n ∈ k, fits y n)) ∧ (r.2 ≠ 0 → r.1 = ⟨#[]⟩) := by
  have a := wInts_f z l ([], false) (by rw [List.length_nil]; omega)
  have z1 := pWs_len z l ([], false)
  rw [List.length_nil] at z1
  have b := wInts_f y k (pWs z l ([], false)) (by omega)
  refine ⟨_, bind_eq a (bind_eq b rfl), fun h => ?_, endB_bad⟩
  obtain ⟨h3, h4⟩ := pWs_ok (endB_ok h)
  exact ⟨(pWs_ok h3).2, h4⟩
theorem bytes_fmt_valid {n d : Int} {bg tr : Bool} {m1 m2 m3 s1 s2 s3 : Int} (hb : format_Valid.f n d bg tr m1 m2 m3 s1 s2 s3 = some true) : format_Bytes.f n d bg tr m1 m2 m3 s1 s2 s3 = some (strOfNums (bytesL n d bg tr m1 m2 m3 s1 s2 s3)) := by
  obtain ⟨b, h1, h2⟩ := valid_p n d bg tr m1 m2 m3 s1 s2 s3
  obtain rfl : true = b := by rw [hb] at h1; exact Option.some.inj h1
  exact bytes_valid (h2.1 rfl) bg
theorem strOfNums_data (bs : List Int) : (strOfNums bs).data.toList = wL bs := rfl
/-- A message that may be is written. -/
theorem bytes_form {m : M20} {bs : List Int} (h : Form m bs) : bytes19 (p19 m) = some (strOfNums bs, 0) := by
  cases h with
  | fmt n d bg tr m1 m2 m3 s1 s2 s3 h =>
    show clientmsg_Bytes.f 0 false 0 0 0 0 0 n d bg tr m1 m2 m3 s1 s2 s3 [] ⟨#[]⟩ = _
    unfold clientmsg_Bytes.f
    rw [if_pos rfl]
    refine bind_eq h ?_
    rw [if_pos rfl]
    refine bind_eq (wInts_f 4 [0] ([], false) (by decide)) ?_
    rw [pWs_fits (l := [0]) (by simp; exact fits4_ (by decide))]
    refine bind_eq (bytes_fmt_valid h) ?_
    rw [if_pos (by simp only [List.nil_append]; rw [wL_length, strOfNums_size, bytesL_len]; decide), strOfNums_data]
    show some (endB (([] ++ wL _) ++ wL _, false)) = _
    rw [List.nil_append, ← wL_append, endB_yes]
    rfl
  | encs l h1 h2 =>
    show clientmsg_Bytes.f 1 false 0 0 0 0 0 0 0 false false 0 0 0 0 0 0 l ⟨#[]⟩ = _
    unfold clientmsg_Bytes.f
    rw [if_neg (by decide), if_pos rfl, if_pos (by omega), decide_eq_false (by omega)]
    refine bind_eq (wInts_f 1 [2, 0] ([], false) (by decide)) ?_
    rw [pWs_fits (l := [2, 0]) (by simp; exact ⟨fits1_ (by decide), fits1_ (by decide)⟩), List.nil_append]
    refine bind_eq (wInts_f 2 [(l.length : Int)] (wL _, false) (by rw [wL_length]; simp [bl1])) ?_
    rw [pWs_fits (l := [(l.length : Int)]) (by simp; exact fits2_ (by omega))]
    refine bind_eq (wSs_f l _ (fun x hx => by have := h2 x hx; unfold R32 at this; unfold I64; omega) (by simp only [List.length_append, wL_length]; simp [bl1, bl2]; omega)) ?_
    rw [pSs_fits h2, ← wL_append, ← wL_append, endB_yes]
    simp [List.append_assoc]
    rfl
  | request f x y w h hx hy hw hh =>
    show clientmsg_Bytes.f 2 f 0 x y w h 0 0 false false 0 0 0 0 0 0 [] ⟨#[]⟩ = _
    unfold clientmsg_Bytes.f
    rw [if_neg (by decide), if_neg (by decide), if_pos rfl]
    refine bind_eq (bit_f f) ((wr2 (by simp; exact ⟨fits1_ (by decide), bitN_fits f⟩) (by simp; exact ⟨hx, hy, hw, hh⟩) (by simp) (by simp)).trans ?_)
    simp [List.append_assoc]
  | key f n hn =>
    show clientmsg_Bytes.f 3 f n 0 0 0 0 0 0 false false 0 0 0 0 0 0 [] ⟨#[]⟩ = _
    unfold clientmsg_Bytes.f
    rw [if_neg (by decide), if_neg (by decide), if_neg (by decide), if_pos rfl]
    refine bind_eq (bit_f f) ((wr2 (by simp; exact ⟨fits1_ (by decide), bitN_fits f, fits1_ (by decide)⟩) (by simp; exact hn) (by simp) (by simp)).trans ?_)
    simp [List.append_assoc]
    rfl
  | pointer n x y hn hx hy =>
    show clientmsg_Bytes.f 4 false n x y 0 0 0 0 false false 0 0 0 0 0 0 [] ⟨#[]⟩ = _
    unfold clientmsg_Bytes.f
    rw [if_neg (by decide), if_neg (by decide), if_neg (by decide), if_neg (by decide), if_pos rfl]
    refine ((wr2 (by simp; exact ⟨fits1_ (by decide), hn⟩) (by simp; exact ⟨hx, hy⟩) (by simp) (by simp)).trans ?_)
    simp [List.append_assoc]
  | cut t h =>
    show clientmsg_Bytes.f 5 false 0 0 0 0 0 0 0 false false 0 0 0 0 0 0 [] t = _
    unfold clientmsg_Bytes.f
    rw [if_neg (by decide), if_neg (by decide), if_neg (by decide), if_neg (by decide), if_neg (by decide), if_pos rfl, if_pos (by omega), decide_eq_false (by omega)]
    refine bind_eq (wInts_f 1 [6, 0, 0, 0] ([], false) (by decide)) ?_
    rw [pWs_fits (l := [6, 0, 0, 0]) (by simp; exact ⟨fits1_ (by decide), fits1_ (by decide)⟩), List.nil_append]
    refine bind_eq (wInts_f 4 [(t.size : Int)] (wL _, false) (by rw [wL_length]; simp [bl1])) ?_
    rw [pWs_fits (l := [(t.size : Int)]) (by simp; exact fits4_ (by omega))]
    rw [if_pos (by simp only [List.length_append, wL_length]; simp [bl1, bl4]; omega), ← wL_bytes]
    show some (endB ((wL _ ++ wL _) ++ wL _, false)) = _
    rw [← wL_append, ← wL_append, endB_yes]
    simp [List.append_assoc]
    rfl
end Go.Proofs.Ytclikkhkhoicfaa.H
