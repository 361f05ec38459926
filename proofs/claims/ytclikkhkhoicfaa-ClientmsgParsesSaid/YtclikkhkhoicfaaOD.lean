/- Numbers of bytes: bounds; what the document's Int answers. No condition. -/
import Derived.Test.YtclikkhkhoicfaaOC
import Derived.Test.YtclikkhkhoicfaaXx24
namespace Go.Proofs.Ytclikkhkhoicfaa.O
open Go.RowKit Go.Proofs.Ytclikkhkhoicfaa.X Go.Proofs.Ytclikkhkhoicfaa.B Go.Proofs.YtclikkhkhoicfaaW.PrintWords Go.Proofs.YtclikkhkhoicfaaW.PrintLast Go.Proofs.YtclikkhkhoicfaaW.PrintMore
set_option linter.unusedVariables false
set_option linter.unusedSimpArgs false
theorem beN_lt (l : List Int) (h : ∀ x ∈ l, 0 ≤ x ∧ x < 256) : 0 ≤ beN l ∧ beN l < 256 ^ l.length := by
  rw [← List.reverse_reverse l]
  generalize hm : l.reverse = m
  have h' : ∀ x ∈ m, 0 ≤ x ∧ x < 256 := fun x hx => h x (by rw [← List.mem_reverse, hm]; exact hx)
  clear h hm
  induction m with
  | nil => simp [beN]
  | cons a m ih =>
    obtain ⟨i0, i1⟩ := ih (fun x hx => h' x (List.mem_cons_of_mem _ hx))
    have ha := h' a (by simp)
    rw [List.reverse_cons, beN_append, List.length_append]
    have : beN [a] = a := by simp [beN]
    rw [this]
    simp only [List.length_cons, List.length_nil]
    rw [Int.pow_succ, Int.pow_succ]
    omega
theorem beN_small (l : List Int) (h : ∀ x ∈ l, 0 ≤ x ∧ x < 256) (hl : l.length ≤ 4) : 0 ≤ beN l ∧ beN l < 4294967296 := by
  obtain ⟨a, b⟩ := beN_lt l h
  refine ⟨a, ?_⟩
  have : l.length = 0 ∨ l.length = 1 ∨ l.length = 2 ∨ l.length = 3 ∨ l.length = 4 := by omega
  rcases this with e | e | e | e | e <;> rw [e] at b <;> simp at b <;> omega
theorem rInt_l (s : ByteArray) (hs : s.size ≤ 4) (d : Nat) : ∀ (k i : Nat), s.size - i = d → i ≤ s.size → d < k → miradorref01_Int.l0 k s (beN ((bytesOf s).take i)) (i : Int) = some (beN (bytesOf s)) := by
  have hb : (bytesOf s).length = s.size := bytesOf_length s
  induction d with
  | zero =>
    intro k i hd hi hk
    obtain ⟨k, rfl⟩ : ∃ m, k = m + 1 := ⟨k - 1, by omega⟩
    rw [miradorref01_Int.l0, if_neg (by omega), List.take_of_length_le (by omega)]
  | succ d ih =>
    intro k i hd hi hk
    obtain ⟨k, rfl⟩ : ∃ m, k = m + 1 := ⟨k - 1, by omega⟩
    have hlt : i < s.size := by omega
    obtain ⟨a0, a1⟩ := beN_small ((bytesOf s).take i) (fun x hx => bytes_range s x (List.mem_of_mem_take hx)) (by rw [List.length_take]; omega)
    have hr : 0 ≤ bt s (i : Int) ∧ bt s (i : Int) < 256 := by
      rw [← rd_bytesOf]; simp only [rd, Int.toNat_natCast, List.getD]
      rw [List.getElem?_eq_getElem (by omega)]
      exact bytes_range s _ (List.getElem_mem _)
    have e0 : beN ((bytesOf s).take (i + 1)) = beN ((bytesOf s).take i) * 256 + bt s i := by
      have e2 : bt s (i : Int) = (bytesOf s)[i]'(by omega) := by
        rw [← rd_bytesOf]; simp only [rd, Int.toNat_natCast, List.getD]
        rw [List.getElem?_eq_getElem (by omega)]
        rfl
      rw [List.take_succ_eq_append_getElem (by omega), beN_append, e2]
      simp only [List.length_cons, List.length_nil, beN, List.foldl_cons, List.foldl_nil]
      omega
    have e1 : wrap64 ((i : Int) + 1) = ((i + 1 : Nat) : Int) := by rw [w64 (by omega) (by omega)]; omega
    have ihh := ih k (i + 1) (by omega) (by omega) (by omega)
    rw [e0] at ihh
    rw [miradorref01_Int.l0, if_pos (by omega), if_pos (by omega), e1]
    generalize beN ((bytesOf s).take i) = n at *
    generalize bt s (i : Int) = b at *
    have e3 : wrap64 (wrap64 (n * 256) + wrap64 b) = n * 256 + b := by unfold wrap64; omega
    rw [e3]
    exact ihh
theorem rInt_f {k : Nat} (hk : 6 ≤ k) (s : ByteArray) (hs : s.size ≤ 4) : miradorref01_Int.f k s = some (beN (bytesOf s)) := by
  unfold miradorref01_Int.f
  have := rInt_l s hs s.size k 0 (by omega) (by omega) (by omega)
  rw [List.take_zero] at this
  exact this
end Go.Proofs.Ytclikkhkhoicfaa.O
