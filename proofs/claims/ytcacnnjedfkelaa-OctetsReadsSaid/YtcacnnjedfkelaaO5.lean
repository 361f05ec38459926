/- What the reference's cursor answers: the same. No condition. -/
import Derived.Test.YtcacnnjedfkelaaO4
namespace Go.Proofs.Ytcacnnjedfkelaa.O
open Go.RowKit Go.Proofs.Ytcacnnjedfkelaa.X Go.Proofs.Ytcacnnjedfkelaa.B Go.Proofs.YtcacnnjedfkelaaW.PrintWords Go.Proofs.YtcacnnjedfkelaaW.PrintLast Go.Proofs.YtcacnnjedfkelaaW.PrintMore
set_option linter.unusedVariables false
set_option linter.unusedSimpArgs false
theorem rBytes_f (s : ByteArray) (p e n : Int) (hs : s.size ≤ 4611686018427387904) (h0 : 0 ≤ p) (h1 : p ≤ s.size) : miradorref01_Cursor_Bytes.f s p e n = some ((rdB s p e n).1, s, (rdB s p e n).2.1, (rdB s p e n).2.2) := by
  unfold miradorref01_Cursor_Bytes.f rdB
  by_cases he : e = 0
  · subst he
    have e1 : wrap64 ((s.size : Int) - p) = (s.size : Int) - p := w64 (by omega) (by omega)
    by_cases hn : n < 0
    · simp [hn]
    · by_cases hn2 : n > (s.size : Int) - p
      · simp [hn, e1, hn2]
      · have e2 : wrap64 (p + n) = p + n := w64 (by omega) (by omega)
        simp [hn, e1, hn2, e2, h0]
        omega
  · simp [he]
theorem beN_lt (l : List Int) (h : ∀ x ∈ l, 0 ≤ x ∧ x < 256) : 0 ≤ beN l ∧ beN l < 256 ^ l.length := by
  rw [← List.reverse_reverse l]
  generalize hm : l.reverse = m
  have h' : ∀ x ∈ m, 0 ≤ x ∧ x < 256 := fun x hx => h x (by rw [← List.mem_reverse, hm]; exact hx)
  clear h hm
  induction m with
  | nil => simp [beN]
  | cons a m ih =>
    obtain ⟨i0, i1⟩ := ih (fun x hx => h' x (List.mem_cons_of_mem _ hx))
    have ha := h' a (by simp)
    rw [List.reverse_cons, beN_append, List.length_append]
    have : beN [a] = a := by simp [beN]
    rw [this]
    simp only [List.length_cons, List.length_nil]
    rw [Int.pow_succ, Int.pow_succ]
    omega
theorem beN_small (l : List Int) (h : ∀ x ∈ l, 0 ≤ x ∧ x < 256) (hl : l.length ≤ 4) : 0 ≤ beN l ∧ beN l < 4294967296 := by
  obtain ⟨a, b⟩ := beN_lt l h
  refine ⟨a, ?_⟩
  have : l.length = 0 ∨ l.length = 1 ∨ l.length = 2 ∨ l.length = 3 ∨ l.length = 4 := by omega
  rcases this with e | e | e | e | e <;> rw [e] at b <;> simp at b <;> omega
theorem rInt_l (s : ByteArray) (hs : s.size ≤ 4) (d : Nat) : ∀ (k i : Nat), s.size - i = d → i ≤ s.size → d < k → miradorref01_Int.l0 k s (beN ((bytesOf s).take i)) (i : Int) = some (beN (bytesOf s)) := by
  have hb : (bytesOf s).length = s.size := bytesOf_length s
  induction d with
  | zero =>
    intro k i hd hi hk
    obtain ⟨k, rfl⟩ : ∃ m, k = m + 1 := ⟨k - 1, by omega⟩
    rw [miradorref01_Int.l0, if_neg (by omega), List.take_of_length_le (by omega)]
  | succ d ih =>
    intro k i hd hi hk
    obtain ⟨k, rfl⟩ : ∃ m, k = m + 1 := ⟨k - 1, by omega⟩
    have hlt : i < s.size := by omega
    obtain ⟨a0, a1⟩ := beN_small ((bytesOf s).take i) (fun x hx => bytes_range s x (List.mem_of_mem_take hx)) (by rw [List.length_take]; omega)
    have hr : 0 ≤ bt s (i : Int) ∧ bt s (i : Int) < 256 := by
      rw [← rd_bytesOf]; simp only [rd, Int.toNat_natCast, List.getD]
      rw [List.getElem?_eq_getElem (by omega)]
      exact bytes_range s _ (List.getElem_mem _)
    have e0 : beN ((bytesOf s).take (i + 1)) = beN ((bytesOf s).take i) * 256 + bt s i := by
      have e2 : bt s (i : Int) = (bytesOf s)[i]'(by omega) := by
        rw [← rd_bytesOf]; simp only [rd, Int.toNat_natCast, List.getD]
        rw [List.getElem?_eq_getElem (by omega)]
        rfl
      rw [List.take_succ_eq_append_getElem (by omega), beN_append, e2]
      simp only [List.length_cons, List.length_nil, beN, List.foldl_cons, List.foldl_nil]
      omega
    have e1 : wrap64 ((i : Int) + 1) = ((i + 1 : Nat) : Int) := by rw [w64 (by omega) (by omega)]; omega
    have ihh := ih k (i + 1) (by omega) (by omega) (by omega)
    rw [e0] at ihh
    rw [miradorref01_Int.l0, if_pos (by omega), if_pos (by omega), e1]
    generalize beN ((bytesOf s).take i) = n at *
    generalize bt s (i : Int) = b at *
    have e3 : wrap64 (wrap64 (n * 256) + wrap64 b) = n * 256 + b := by unfold wrap64; omega
    rw [e3]
    exact ihh
theorem rInt_f {k : Nat} (hk : 6 ≤ k) (s : ByteArray) (hs : s.size ≤ 4) : miradorref01_Int.f k s = some (beN (bytesOf s)) := by
  unfold miradorref01_Int.f
  have := rInt_l s hs s.size k 0 (by omega) (by omega) (by omega)
  rw [List.take_zero] at this
  exact this
theorem rCInt_f {k : Nat} (hk : 8 ≤ k) (s : ByteArray) (p e n : Int) (hs : s.size ≤ 4611686018427387904) (h0 : 0 ≤ p) (h1 : p ≤ s.size) :
    miradorref01_Cursor_Int.f k s p e n = some (beN (bytesOf (rdB s p (asked e n) n).1), s, (rdB s p (asked e n) n).2.1, (rdB s p (asked e n) n).2.2) := by
  obtain ⟨k, rfl⟩ : ∃ m, k = m + 1 := ⟨k - 1, by omega⟩
  have hz := asked_size s p e n h0 h1
  unfold miradorref01_Cursor_Int.f
  by_cases he : e = 0
  · rw [if_pos he, rSize_f, Option.bind_some, miradorref01_Cursor_Int.j0]
    by_cases hw : n = 1 ∨ n = 2 ∨ n = 4
    · have ha : asked e n = e := by unfold asked; rw [if_neg (fun h => h.2 hw)]
      rw [if_neg (by simp [hw]), rBytes_f s p e n hs h0 h1, Option.bind_some]
      rw [ha] at hz ⊢
      rw [rInt_f (by omega) _ hz]
      rfl
    · have ha : asked e n = 1 := by unfold asked; rw [if_pos ⟨he, hw⟩]
      rw [if_pos (by simp [hw]), rBytes_f s p 1 n hs h0 h1, Option.bind_some]
      rw [ha] at hz ⊢
      rw [rInt_f (by omega) _ hz]
      rfl
  · have ha : asked e n = e := by unfold asked; rw [if_neg (fun h => he h.1)]
    rw [if_neg he, miradorref01_Cursor_Int.j0, if_neg (by decide), rBytes_f s p e n hs h0 h1, Option.bind_some]
    rw [ha] at hz ⊢
    rw [rInt_f (by omega) _ hz]
    rfl
theorem rev_bytes (b : ByteArray) : bytesOf (strOfNums (bytesOf b).reverse) = (bytesOf b).reverse := bytes_str fun x hx => bytes_range b x (List.mem_reverse.mp hx)
theorem rCLittle_f {k : Nat} (hk : 8 ≤ k) (s : ByteArray) (p e n : Int) (hs : s.size ≤ 4611686018427387904) (h0 : 0 ≤ p) (h1 : p ≤ s.size) :
    miradorref01_Cursor_Little.f k s p e n = some (beN (bytesOf (rdB s p (asked e n) n).1).reverse, s, (rdB s p (asked e n) n).2.1, (rdB s p (asked e n) n).2.2) := by
  obtain ⟨k, rfl⟩ : ∃ m, k = m + 1 := ⟨k - 1, by omega⟩
  have hz := asked_size s p e n h0 h1
  have fin : ∀ b : ByteArray, b.size ≤ 4 → ((miradorref01_Turned.f k b).bind fun t => (miradorref01_Int.f k t)) = some (beN (bytesOf b).reverse) := by
    intro b hb
    rw [rTurned_f b (by omega) (by omega), Option.bind_some, rInt_f (by omega) _ (by rw [strOfNums_size, List.length_reverse, bytesOf_length]; exact hb), rev_bytes]
  have fin2 : ∀ (b : ByteArray) (x : ByteArray × Int × Int), b.size ≤ 4 → ((miradorref01_Turned.f k b).bind fun t => ((miradorref01_Int.f k t).bind fun u => some (u, x))) = some (beN (bytesOf b).reverse, x) := by
    intro b x hb
    have := fin b hb
    rw [rTurned_f b (by omega) (by omega), Option.bind_some] at this ⊢
    rw [this]
    rfl
  unfold miradorref01_Cursor_Little.f
  by_cases he : e = 0
  · rw [if_pos he, rSize_f, Option.bind_some, miradorref01_Cursor_Little.j0]
    by_cases hw : n = 1 ∨ n = 2 ∨ n = 4
    · have ha : asked e n = e := by unfold asked; rw [if_neg (fun h => h.2 hw)]
      rw [if_neg (by simp [hw]), rBytes_f s p e n hs h0 h1, Option.bind_some]
      rw [ha] at hz ⊢
      exact fin2 _ _ hz
    · have ha : asked e n = 1 := by unfold asked; rw [if_pos ⟨he, hw⟩]
      rw [if_pos (by simp [hw]), rBytes_f s p 1 n hs h0 h1, Option.bind_some]
      rw [ha] at hz ⊢
      exact fin2 _ _ hz
  · have ha : asked e n = e := by unfold asked; rw [if_neg (fun h => he h.1)]
    rw [if_neg he, miradorref01_Cursor_Little.j0, if_neg (by decide), rBytes_f s p e n hs h0 h1, Option.bind_some]
    rw [ha] at hz ⊢
    exact fin2 _ _ hz
theorem minus_f (x : Int) (h0 : 0 ≤ x) (h1 : x < 4294967296) : miradorref01_Minus.f x = some (wrap64 (wrap32 x)) := by
  unfold miradorref01_Minus.f
  by_cases h : x > 2147483647
  · rw [if_pos h]; congr 1; unfold wrap64 wrap32; omega
  · rw [if_neg h]; congr 1; unfold wrap64 wrap32; omega
theorem rCSigned_f {k : Nat} (hk : 8 ≤ k) (s : ByteArray) (p e : Int) (hs : s.size ≤ 4611686018427387904) (h0 : 0 ≤ p) (h1 : p ≤ s.size) :
    miradorref01_Cursor_Signed.f k s p e = some (wrap64 (wrap32 (beN (bytesOf (rdB s p e 4).1))), s, (rdB s p e 4).2.1, (rdB s p e 4).2.2) := by
  have ha : asked e 4 = e := by unfold asked; rw [if_neg (by omega)]
  have hz := asked_size s p e 4 h0 h1
  unfold miradorref01_Cursor_Signed.f
  rw [rCInt_f hk s p e 4 hs h0 h1]
  rw [ha] at hz ⊢
  simp only [Option.bind_some]
  obtain ⟨c0, c1⟩ := beN_small (bytesOf (rdB s p e 4).1) (bytes_range _) (by rw [bytesOf_length]; exact hz)
  rw [minus_f _ c0 (by omega)]
  rfl
end Go.Proofs.Ytcacnnjedfkelaa.O
