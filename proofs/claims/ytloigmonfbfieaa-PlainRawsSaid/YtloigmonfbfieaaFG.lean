/- A format: the number of bytes, in plain lists: get, Get. No condition. -/
import Derived.Test.YtloigmonfbfieaaFS
import Derived.Test.YtloigmonfbfieaaOD
import Derived.Test.YtloigmonfbfieaaXx4
namespace Go.Proofs.Ytloigmonfbfieaa.F
open Go.RowKit Go.Proofs.YtloigmonfbfieaaW.PrintWords Go.Proofs.YtloigmonfbfieaaW.PrintLast Go.Proofs.YtloigmonfbfieaaW.PrintMore Go.Proofs.Ytloigmonfbfieaa.B Go.Proofs.Ytloigmonfbfieaa.O
set_option linter.unusedVariables false
set_option linter.unusedSimpArgs false
theorem bt_nth (s : ByteArray) (i : Nat) : bt s (i : Int) = (bytesOf s).getD i 0 := by
  rw [← rd_bytesOf]; simp only [rd, Int.toNat_natCast]
theorem bt_bd (s : ByteArray) (i : Int) : 0 ≤ bt s i ∧ bt s i < 256 := by have := bt_range s i; omega
/-- The bytes in the order in which they are read. -/
def ordL (bg : Bool) (l : List Int) (z : Nat) : List Int := if bg = true then l.take z else (l.take z).reverse
theorem ordL_length {bg : Bool} {l : List Int} {z : Nat} (h : z ≤ l.length) : (ordL bg l z).length = z := by
  unfold ordL; split <;> simp <;> omega
theorem ordL_range {bg : Bool} {l : List Int} {z : Nat} (h : ∀ x ∈ l, 0 ≤ x ∧ x < 256) : ∀ x ∈ ordL bg l z, 0 ≤ x ∧ x < 256 := by
  unfold ordL
  split
  · exact fun x hx => h x (List.mem_of_mem_take hx)
  · exact fun x hx => h x (List.mem_of_mem_take (List.mem_reverse.mp hx))
theorem beN_snoc (l : List Int) (x : Int) : beN (l ++ [x]) = beN l * 256 + x := by
  rw [beN_append]; simp [beN]
theorem beN_take_bd (l : List Int) (h : ∀ x ∈ l, 0 ≤ x ∧ x < 256) (i : Nat) (hi : i ≤ 3) : 0 ≤ beN (l.take i) ∧ beN (l.take i) ≤ 16777215 := by
  obtain ⟨a, b⟩ := beN_lt (l.take i) (fun x hx => h x (List.mem_of_mem_take hx))
  have hl : (l.take i).length ≤ 3 := by rw [List.length_take]; omega
  have : (l.take i).length = 0 ∨ (l.take i).length = 1 ∨ (l.take i).length = 2 ∨ (l.take i).length = 3 := by omega
  rcases this with e | e | e | e <;> rw [e] at b <;> simp at b <;> omega
theorem ord_big {l : List Int} {z i : Nat} (hz : z ≤ l.length) (hi : i < z) : (ordL true l z).take (i + 1) = (ordL true l z).take i ++ [l.getD i 0] := by
  have h1 : i < (ordL true l z).length := by rw [ordL_length hz]; exact hi
  rw [List.take_succ_eq_append_getElem h1]
  congr 2
  simp [ordL, List.getD, show i < l.length by omega]
theorem ord_little {l : List Int} {z i : Nat} (hz : z ≤ l.length) (hi : i < z) : (ordL false l z).take (i + 1) = (ordL false l z).take i ++ [l.getD (z - 1 - i) 0] := by
  have h1 : i < (ordL false l z).length := by rw [ordL_length hz]; exact hi
  rw [List.take_succ_eq_append_getElem h1]
  congr 2
  simp [ordL, List.getD, show z - 1 - i < l.length by omega, Nat.min_eq_left hz]
theorem get_f {n d : Int} {bg tr : Bool} {m1 m2 m3 s1 s2 s3 : Int} (hb : X.format_Valid.f n d bg tr m1 m2 m3 s1 s2 s3 = some true) (k : Nat) (hk : 10 ≤ k) (z : Nat) (hz : z ≤ 4) (s : ByteArray) (hs : s.size ≤ 4611686018427387904) :
    X.format_get.f k n d bg tr m1 m2 m3 s1 s2 s3 (z : Int) s = some (if s.size < z then (0, 2) else (beN (ordL bg (bytesOf s) z), 0)) := by
  have e0 : X.format_get.f k n d bg tr m1 m2 m3 s1 s2 s3 (z : Int) s = if (s.size : Int) < (z : Int) then some (0, 2) else X.format_get.l0 k (z : Int) s 0 (z : Int) 0 n d bg tr m1 m2 m3 s1 s2 s3 := by
    unfold X.format_get.f; rw [hb]; rfl
  rw [e0]
  by_cases hlt : s.size < z
  · rw [if_pos (by omega), if_pos hlt]
  · rw [if_neg (by omega), if_neg hlt]
    have hl : (bytesOf s).length = s.size := bytesOf_length s
    have hzl : z ≤ (bytesOf s).length := by omega
    have hR := ordL_range (bg := bg) (z := z) (bytes_range s)
    have key : ∀ (q i k : Nat), i + q = z → q < k → X.format_get.l0 k (z : Int) s (beN ((ordL bg (bytesOf s) z).take i)) (z : Int) (i : Int) n d bg tr m1 m2 m3 s1 s2 s3 = some (beN (ordL bg (bytesOf s) z), 0) := by
      intro q
      induction q with
      | zero =>
        intro i k hi hk
        obtain ⟨k, rfl⟩ : ∃ m, k = m + 1 := ⟨k - 1, by omega⟩
        simp only [X.format_get.l0]
        rw [if_neg (by omega), List.take_of_length_le (by rw [ordL_length hzl]; omega)]
      | succ q ih =>
        intro i k hi hk
        obtain ⟨k, rfl⟩ : ∃ m, k = m + 1 := ⟨k - 1, by omega⟩
        have h := ih (i + 1) k (by omega) (by omega)
        have hbd := beN_take_bd _ hR i (by omega)
        have e1 : wrap64 ((i : Int) + 1) = ((i + 1 : Nat) : Int) := by rw [w64 (by omega) (by omega)]; push_cast; rfl
        simp only [X.format_get.l0]
        rw [if_pos (by omega), e1]
        cases bg with
        | true =>
          have hx := bt_bd s (i : Int)
          rw [if_pos rfl, if_pos (by omega), if_pos (by omega), w64 (x := bt s (i : Int)) (by omega) (by omega), or_low hbd (by omega)]
          rw [ord_big hzl (by omega), beN_snoc, ← bt_nth] at h
          exact h
        | false =>
          have e2 : wrap64 (wrap64 ((z : Int) - 1) - (i : Int)) = ((z - 1 - i : Nat) : Int) := by rw [w64 (x := (z : Int) - 1) (by omega) (by omega), w64 (by omega) (by omega)]; omega
          have hx := bt_bd s ((z - 1 - i : Nat) : Int)
          rw [if_neg (by decide), e2, if_pos (by omega), if_pos (by omega), w64 (x := bt s ((z - 1 - i : Nat) : Int)) (by omega) (by omega), or_low hbd (by omega)]
          rw [ord_little hzl (by omega), beN_snoc, ← bt_nth] at h
          exact h
    exact key z 0 k (by omega) (by omega)
theorem Get_f {n d : Int} {bg tr : Bool} {m1 m2 m3 s1 s2 s3 : Int} (hv : Vd n d tr m1 m2 m3 s1 s2 s3) (hb : X.format_Valid.f n d bg tr m1 m2 m3 s1 s2 s3 = some true) (k : Nat) (hk : 10 ≤ k) (s : ByteArray) (hs : s.size ≤ 4611686018427387904) :
    ∃ z : Nat, z ≤ 4 ∧ n = 8 * z ∧ X.format_Get.f k n d bg tr m1 m2 m3 s1 s2 s3 s = some (if s.size < z then (0, 2) else (beN (ordL bg (bytesOf s) z), 0)) := by
  obtain ⟨z, hz, hn8, hsz⟩ := size_f hv bg hb
  refine ⟨z, hz, hn8, ?_⟩
  unfold X.format_Get.f
  refine bind_eq hsz ?_
  exact bind_eq (get_f hb k hk z hz s hs) rfl
theorem emod_split (n P : Int) (hP : 0 < P) : n % (P * 256) = n / P % 256 * P + n % P := by
  have h1 := Int.emod_nonneg n (show P ≠ 0 by omega)
  have h2 := Int.emod_lt_of_pos n hP
  have h3 : P * (n / P) + n % P = n := Int.mul_ediv_add_emod n P
  have h4 : n / P = 256 * (n / P / 256) + n / P % 256 := by omega
  have h5 : 0 ≤ n / P % 256 := by omega
  have h6 : n / P % 256 * P ≤ 255 * P := Int.mul_le_mul_of_nonneg_right (by omega) (by omega)
  have h7 : 0 ≤ n / P % 256 * P := Int.mul_nonneg h5 (by omega)
  have e : n = (n / P % 256 * P + n % P) + (P * 256) * (n / P / 256) := by
    have h8 : P * (n / P) = P * (256 * (n / P / 256) + n / P % 256) := by rw [← h4]
    rw [Int.mul_add, ← Int.mul_assoc, Int.mul_comm P (n / P % 256)] at h8
    omega
  generalize n / P % 256 = a at *
  generalize n / P / 256 = b at *
  generalize n % P = c at *
  rw [e, Int.add_mul_emod_self_left]
  exact Int.emod_eq_of_lt (by omega) (by omega)
/-- Bytes that were written are read again. -/
theorem beN_leB (n : Int) : ∀ z : Nat, beN (leB n z).reverse = n % 256 ^ z
  | 0 => by simp [leB, beN]
  | z + 1 => by
    have ih := beN_leB n z
    have hp : (0 : Int) < 256 ^ z := Int.pow_pos (by decide)
    rw [leB_succ, List.reverse_append, beN_append, ih, List.length_reverse, leB_length, Int.pow_succ, emod_split n _ hp]
    have e : beN [n / 2 ^ (8 * z) % 256].reverse = n / 256 ^ z % 256 := by
      rw [Int.pow_mul]; simp [beN]
    rw [e]
theorem ord_put (bg : Bool) (L t : List Int) (z : Nat) (hL : L.length = z) : ordL bg ((if bg = true then L.reverse else L) ++ t) z = L.reverse := by
  subst hL
  cases bg with
  | true =>
    unfold ordL
    rw [if_pos rfl, if_pos rfl, List.take_append_of_le_length (by rw [List.length_reverse]; exact Nat.le_refl _), List.take_of_length_le (by rw [List.length_reverse]; exact Nat.le_refl _)]
  | false =>
    unfold ordL
    rw [if_neg (by decide), if_neg (by decide), List.take_append_of_le_length (Nat.le_refl _), List.take_of_length_le (Nat.le_refl _)]
theorem put_range (bg : Bool) (n : Int) (z : Nat) : ∀ x ∈ (if bg = true then (leB n z).reverse else leB n z), 0 ≤ x ∧ x < 256 := by
  cases bg with
  | true => exact fun x hx => leB_range n z x (List.mem_reverse.mp hx)
  | false => exact leB_range n z
theorem put_length (bg : Bool) (n : Int) (z : Nat) : (if bg = true then (leB n z).reverse else leB n z).length = z := by
  cases bg <;> simp [leB_length]
/-- The number of written bytes, whatever stands behind. -/
theorem back_num (bg : Bool) (n : Int) (z : Nat) (t : ByteArray) : beN (ordL bg (bytesOf (strOfNums (if bg = true then (leB n z).reverse else leB n z) ++ t)) z) = n % 256 ^ z := by
  rw [bytes_append, bytes_str (put_range bg n z), ord_put bg (leB n z) _ z (leB_length n z), beN_leB]
end Go.Proofs.Ytloigmonfbfieaa.F
