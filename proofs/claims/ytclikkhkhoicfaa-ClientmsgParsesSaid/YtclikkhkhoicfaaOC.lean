/- What a cursor answers, in plain words: bytes, numbers. No condition. -/
import Derived.Test.YtclikkhkhoicfaaOA
import Derived.Test.YtclikkhkhoicfaaXx6
import Derived.Test.YtclikkhkhoicfaaXx4
import Derived.Test.YtclikkhkhoicfaaXx3
namespace Go.Proofs.Ytclikkhkhoicfaa.O
open Go.RowKit Go.Proofs.Ytclikkhkhoicfaa.X Go.Proofs.Ytclikkhkhoicfaa.B Go.Proofs.YtclikkhkhoicfaaW.PrintWords Go.Proofs.YtclikkhkhoicfaaW.PrintLast Go.Proofs.YtclikkhkhoicfaaW.PrintMore
set_option linter.unusedVariables false
set_option linter.unusedSimpArgs false
theorem or_join {i : Nat} (hi : i ≤ 62) {y x : Int} (hy0 : 0 ≤ y) (hy : y < 2 ^ i) (hx0 : 0 ≤ x) (hx : x % 2 ^ i = 0) (hx1 : x < 4611686018427387904) : Go.bits .or .i64 y x = y + x := by
  have hw : ∀ n : Int, 0 ≤ n → n < 2 ^ 62 → IntKind.i64.wrap n = n := fun n h0 h1 => by rw [IntKind.wrap_i64]; omega
  have hp : (2 : Int) ^ i ≤ 2 ^ 62 := by exact_mod_cast Nat.pow_le_pow_right (by decide) hi
  have h := bits_join .i64 62 (by decide) hw i x y hx0 hx (by omega) hy0 hy (by omega)
  rw [← Int.add_comm x y, ← h]
  obtain ⟨a, rfl⟩ := Int.eq_ofNat_of_zero_le hx0
  obtain ⟨b, rfl⟩ := Int.eq_ofNat_of_zero_le hy0
  have ha : a < 2 ^ 62 := by omega
  have hb : b < 2 ^ 62 := by omega
  rw [(bits_nat .i64 62 (by decide) hw a b ha hb).2, (bits_nat .i64 62 (by decide) hw b a hb ha).2, Nat.or_comm]
/-- A number of its bytes, the greatest one first. -/
def beN (l : List Int) : Int := l.foldl (fun a x => a * 256 + x) 0
theorem leK_beN (l : List Int) (h : ∀ x ∈ l, 0 ≤ x ∧ x < 256) (hl : l.length ≤ 4) : octets_leK l l.length = beN l.reverse := by
  have s0 : ∀ a : Int, 0 ≤ a → a < 256 → Go.bits .or .i64 0 (wrap64 (a * 2 ^ (8 * 0))) = a := fun a h0 h1 => by
    rw [w64 (by omega) (by omega), or_join (i := 0) (by omega) (by omega) (by omega) (by omega) (by omega) (by omega)]; omega
  have s1 : ∀ n a : Int, 0 ≤ n → n < 256 → 0 ≤ a → a < 256 → Go.bits .or .i64 n (wrap64 (a * 2 ^ (8 * 1))) = n + a * 256 := fun n a n0 n1 h0 h1 => by
    rw [w64 (by omega) (by omega), or_join (i := 8) (by omega) n0 (by omega) (by omega) (by omega) (by omega)]; rfl
  have s2 : ∀ n a : Int, 0 ≤ n → n < 65536 → 0 ≤ a → a < 256 → Go.bits .or .i64 n (wrap64 (a * 2 ^ (8 * 2))) = n + a * 65536 := fun n a n0 n1 h0 h1 => by
    rw [w64 (by omega) (by omega), or_join (i := 16) (by omega) n0 (by omega) (by omega) (by omega) (by omega)]; rfl
  have s3 : ∀ n a : Int, 0 ≤ n → n < 16777216 → 0 ≤ a → a < 256 → Go.bits .or .i64 n (wrap64 (a * 2 ^ (8 * 3))) = n + a * 16777216 := fun n a n0 n1 h0 h1 => by
    rw [w64 (by omega) (by omega), or_join (i := 24) (by omega) n0 (by omega) (by omega) (by omega) (by omega)]; rfl
  match l, h, hl with
  | [], _, _ => rfl
  | [a], h, _ =>
    have ha := h a (by simp)
    simp only [List.length_cons, List.length_nil, octets_leK, List.getD_cons_zero, List.getD_cons_succ]
    rw [s0 a ha.1 ha.2]
    simp [beN]
  | [a, b], h, _ =>
    have ha := h a (by simp)
    have hb := h b (by simp)
    simp only [List.length_cons, List.length_nil, octets_leK, List.getD_cons_zero, List.getD_cons_succ]
    rw [s0 a ha.1 ha.2, s1 a b (by omega) (by omega) (by omega) (by omega)]
    simp [beN] <;> omega
  | [a, b, c], h, _ =>
    have ha := h a (by simp)
    have hb := h b (by simp)
    have hc := h c (by simp)
    simp only [List.length_cons, List.length_nil, octets_leK, List.getD_cons_zero, List.getD_cons_succ]
    rw [s0 a ha.1 ha.2, s1 a b (by omega) (by omega) (by omega) (by omega), s2 _ c (by omega) (by omega) (by omega) (by omega)]
    simp [beN] <;> omega
  | [a, b, c, d], h, _ =>
    have ha := h a (by simp)
    have hb := h b (by simp)
    have hc := h c (by simp)
    have hd := h d (by simp)
    simp only [List.length_cons, List.length_nil, octets_leK, List.getD_cons_zero, List.getD_cons_succ]
    rw [s0 a ha.1 ha.2, s1 a b (by omega) (by omega) (by omega) (by omega), s2 _ c (by omega) (by omega) (by omega) (by omega), s3 _ d (by omega) (by omega) (by omega) (by omega)]
    simp [beN] <;> omega
  | _ :: _ :: _ :: _ :: _ :: _, _, hl => simp at hl
/-- What is told of the next n bytes: the bytes, how far it is, the error. -/
def rdB (s : ByteArray) (p e n : Int) : ByteArray × Int × Int :=
  if e ≠ 0 then (⟨#[]⟩, p, e) else if n < 0 then (⟨#[]⟩, p, 1) else if n > (s.size : Int) - p then (⟨#[]⟩, p, 2) else (s.extract p.toNat (p + n).toNat, p + n, 0)
theorem Bytes_f (s : ByteArray) (p e n : Int) (hs : s.size ≤ 4611686018427387904) (h0 : 0 ≤ p) (h1 : p ≤ s.size) : octets_Cursor_Bytes.f s p e n = some ((rdB s p e n).1, s, (rdB s p e n).2.1, (rdB s p e n).2.2) := by
  unfold octets_Cursor_Bytes.f rdB octets_Cursor_Left.f octets_Cursor_fail.f
  by_cases he : e = 0
  · subst he
    by_cases hn : n < 0
    · simp [hn]
    · by_cases hn2 : n > (s.size : Int) - p
      · have e1 : wrap64 ((s.size : Int) - p) = (s.size : Int) - p := w64 (by omega) (by omega)
        simp [hn, e1, hn2]
      · have e1 : wrap64 ((s.size : Int) - p) = (s.size : Int) - p := w64 (by omega) (by omega)
        have e2 : wrap64 (p + n) = p + n := w64 (by omega) (by omega)
        have e3 : wrap64 p = p := w64 (by omega) (by omega)
        simp [hn, e1, hn2, e2, e3, h0]
        omega
  · have e1 : wrap64 ((s.size : Int) - p) = (s.size : Int) - p := w64 (by omega) (by omega)
    by_cases hn : n < 0
    · simp [hn, he]
    · by_cases hn2 : n > (s.size : Int) - p
      · simp [hn, e1, hn2, he]
      · simp [hn, e1, hn2, he]
theorem rdB_ok (s : ByteArray) (p e n : Int) (h0 : 0 ≤ p) (h1 : p ≤ s.size) : 0 ≤ (rdB s p e n).2.1 ∧ (rdB s p e n).2.1 ≤ s.size ∧ ((rdB s p e n).1.size : Int) ≤ s.size := by
  unfold rdB
  split
  · exact ⟨h0, h1, by show (0 : Int) ≤ _; omega⟩
  · split
    · exact ⟨h0, h1, by show (0 : Int) ≤ _; omega⟩
    · split
      · exact ⟨h0, h1, by show (0 : Int) ≤ _; omega⟩
      · refine ⟨by show (0 : Int) ≤ p + n; omega, by show p + n ≤ _; omega, ?_⟩
        show ((s.extract p.toNat (p + n).toNat).size : Int) ≤ s.size
        rw [ba_size_extract]; omega
theorem rdB_size (s : ByteArray) (p e n : Int) (h0 : 0 ≤ p) (h1 : p ≤ s.size) : (rdB s p e n).1.size = 0 ∨ ((rdB s p e n).1.size : Int) = n := by
  unfold rdB
  split
  · exact .inl rfl
  · split
    · exact .inl rfl
    · split
      · exact .inl rfl
      · right
        show ((s.extract p.toNat (p + n).toNat).size : Int) = n
        rw [ba_size_extract]; omega
/-- A number is asked of a cursor: the error that it has by then. -/
def asked (e n : Int) : Int := if e = 0 ∧ ¬ (n = 1 ∨ n = 2 ∨ n = 4) then 1 else e
theorem asked_f (s : ByteArray) (p e n : Int) : ((octets_wide.f n).bind fun wd => if wd = true then some (s, p, e) else octets_Cursor_fail.f s p e 1) = some (s, p, asked e n) := by
  rw [wide_f, Option.bind_some]
  unfold asked octets_Cursor_fail.f
  by_cases hw : n = 1 ∨ n = 2 ∨ n = 4
  · rw [if_pos (by simpa using hw), if_neg (fun h => h.2 hw)]
  · rw [if_neg (by simpa using hw)]
    by_cases he : e = 0
    · rw [if_pos he, if_pos ⟨he, hw⟩]
    · rw [if_neg he, if_neg (fun h => he h.1)]
theorem asked_size (s : ByteArray) (p e n : Int) (h0 : 0 ≤ p) (h1 : p ≤ s.size) : (rdB s p (asked e n) n).1.size ≤ 4 := by
  by_cases hw : n = 1 ∨ n = 2 ∨ n = 4
  · rcases rdB_size s p (asked e n) n h0 h1 with h | h <;> omega
  · have : asked e n ≠ 0 := by unfold asked; split <;> simp_all
    unfold rdB
    rw [if_pos this]
    show (0 : Nat) ≤ 4
    omega
theorem number_eq {s : ByteArray} {p e n : Int} {wd : Bool} {st : ByteArray × Int × Int} (hw : octets_wide.f n = some wd) (hf : (if wd = true then some (s, p, e) else octets_Cursor_fail.f s p e 1) = some st) : st = (s, p, asked e n) := by
  have h := asked_f s p e n
  rw [hw, Option.bind_some, hf] at h
  exact Option.some.inj h
theorem Int_f (s : ByteArray) (p e n : Int) (hs : s.size ≤ 4611686018427387904) (h0 : 0 ≤ p) (h1 : p ≤ s.size) :
    octets_Cursor_Int.f s p e n = some (beN (bytesOf (rdB s p (asked e n) n).1), s, (rdB s p (asked e n) n).2.1, (rdB s p (asked e n) n).2.2) := by
  have ha := asked_f s p e n
  unfold octets_Cursor_Int.f octets_numberT.f
  rw [wide_f, Option.bind_some] at ha ⊢
  rw [ha, Option.bind_some, Bytes_f s p _ n hs h0 h1, Option.bind_some, if_pos (asked_size s p e n h0 h1)]
  have hz := asked_size s p e n h0 h1
  generalize (rdB s p (asked e n) n).1 = b at *
  have e1 : (octets_turnT b).size = (bytesOf (octets_turnT b)).length := (bytesOf_length _).symm
  have e2 : bytesOf (octets_turnT b) = (bytesOf b).reverse := bytes_str fun x hx => bytes_range b x (List.mem_reverse.mp hx)
  rw [e1, e2, leK_beN _ (fun x hx => bytes_range b x (List.mem_reverse.mp hx)) (by rw [List.length_reverse, bytesOf_length]; exact hz), List.reverse_reverse]
theorem beN_append (xs ys : List Int) : beN (xs ++ ys) = beN xs * 256 ^ ys.length + beN ys := by
  unfold beN
  rw [List.foldl_append]
  generalize List.foldl (fun a x => a * 256 + x) 0 xs = a
  induction ys generalizing a with
  | nil => simp
  | cons y ys ih =>
    simp only [List.foldl_cons, List.length_cons]
    rw [ih (a * 256 + y), ih (0 * 256 + y), Int.pow_succ, Int.add_mul, Int.add_mul]
    have : a * 256 * 256 ^ ys.length = a * (256 ^ ys.length * 256) := by rw [Int.mul_assoc, Int.mul_comm 256]
    omega
theorem beN_beL {s n : Int} (h : fits s n) : beN (beL s n) = n := by
  rcases h with ⟨rfl, h⟩ | ⟨rfl, h⟩ | ⟨rfl, h⟩ <;> simp [beL, beN] <;> omega
end Go.Proofs.Ytclikkhkhoicfaa.O
