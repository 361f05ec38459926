/- A format: what was written is read again, in plain numbers. No condition. -/
import Derived.Test.YtaielfghgmghgaaFM10
import Derived.Test.YtaielfghgmghgaaFM9
namespace Go.Proofs.Ytaielfghgmghgaa.F
open Go.RowKit Go.Proofs.YtaielfghgmghgaaW.PrintWords Go.Proofs.YtaielfghgmghgaaW.PrintLast Go.Proofs.YtaielfghgmghgaaW.PrintMore Go.Proofs.Ytaielfghgmghgaa.B Go.Proofs.Ytaielfghgmghgaa.O
set_option linter.unusedVariables false
set_option linter.unusedSimpArgs false
theorem ord_put (bg : Bool) (L t : List Int) (z : Nat) (hL : L.length = z) : ordL bg ((if bg = true then L.reverse else L) ++ t) z = L.reverse := by
  subst hL
  cases bg with
  | true =>
    unfold ordL
    rw [if_pos rfl, if_pos rfl, List.take_append_of_le_length (by rw [List.length_reverse]; exact Nat.le_refl _), List.take_of_length_le (by rw [List.length_reverse]; exact Nat.le_refl _)]
  | false =>
    unfold ordL
    rw [if_neg (by decide), if_neg (by decide), List.take_append_of_le_length (Nat.le_refl _), List.take_of_length_le (Nat.le_refl _)]
theorem put_range (bg : Bool) (n : Int) (z : Nat) : ∀ x ∈ (if bg = true then (leB n z).reverse else leB n z), 0 ≤ x ∧ x < 256 := by
  cases bg with
  | true => exact fun x hx => leB_range n z x (List.mem_reverse.mp hx)
  | false => exact leB_range n z
theorem put_length (bg : Bool) (n : Int) (z : Nat) : (if bg = true then (leB n z).reverse else leB n z).length = z := by
  cases bg <;> simp [leB_length]
/-- The number of written bytes, whatever stands behind. -/
theorem back_num (bg : Bool) (n : Int) (z : Nat) (t : ByteArray) : beN (ordL bg (bytesOf (strOfNums (if bg = true then (leB n z).reverse else leB n z) ++ t)) z) = n % 256 ^ z := by
  rw [bytes_append, bytes_str (put_range bg n z), ord_put bg (leB n z) _ z (leB_length n z), beN_leB]
theorem sub_self (k S y : Nat) (hy : y ≤ 2 ^ k - 1) : (y * 2 ^ S) &&& ((2 ^ k - 1) * 2 ^ S) = y * 2 ^ S := by
  have a := Nat.two_pow_pos k
  rw [← part_at, Nat.mul_div_cancel _ (Nat.two_pow_pos S), Nat.and_two_pow_sub_one_eq_mod, Nat.mod_eq_of_lt (by omega)]
theorem plN_sub {n x m s : Int} (hn : n ≤ 32) (h : okP n m s) (hx : 0 ≤ x ∧ x ≤ 255) : plN x m s &&& mkN m s = plN x m s := by
  obtain ⟨k, S, hM, rfl, hs⟩ := h
  have hb := dn_bd hx (isM_bd hM)
  obtain ⟨u, hu⟩ : ∃ u : Nat, dn x m = u := ⟨(dn x m).toNat, by omega⟩
  have q := hM.2.2
  have t := Nat.two_pow_pos k
  rw [plN_nat hM hu, mkN_nat hM]
  exact sub_self k S u (by omega)
theorem sub_left {a M X : Nat} (h : a &&& M = a) : a &&& (M ||| X) = a := by
  apply Nat.eq_of_testBit_eq; intro i
  have h1 := congrArg (fun q => Nat.testBit q i) h
  simp only [Nat.testBit_and, Nat.testBit_or] at h1 ⊢
  cases ha : a.testBit i <;> cases hb : M.testBit i <;> cases hc : X.testBit i <;> simp_all
theorem sub_right {a M X : Nat} (h : a &&& M = a) : a &&& (X ||| M) = a := by rw [Nat.or_comm]; exact sub_left h
/-- A colour's value, as a Nat. -/
def valN (m1 m2 m3 s1 s2 s3 c : Int) : Nat := plN (cp c 0) m1 s1 + plN (cp c 1) m2 s2 + plN (cp c 2) m3 s3
theorem valN_sub {n d : Int} {tr : Bool} {m1 m2 m3 s1 s2 s3 : Int} (hv : Vd n d tr m1 m2 m3 s1 s2 s3) (c : Int) : valN m1 m2 m3 s1 s2 s3 c &&& allN m1 m2 m3 s1 s2 s3 = valN m1 m2 m3 s1 s2 s3 c := by
  have hn : n ≤ 32 := by have := hv.bits; omega
  have l1 := (plN_bd hn hv.p1 (cp_bd c 0)).2
  have l2 := (plN_bd hn hv.p2 (cp_bd c 1)).2
  have l3 := (plN_bd hn hv.p3 (cp_bd c 2)).2
  have a12 := pl_apart hn hv.p1 hv.p2 (cp_bd c 0) (cp_bd c 1) hv.a12
  have a13 := pl_apart hn hv.p1 hv.p3 (cp_bd c 0) (cp_bd c 2) hv.a13
  have a23 := pl_apart hn hv.p2 hv.p3 (cp_bd c 1) (cp_bd c 2) hv.a23
  have h12 := or_add (a := plN (cp c 0) m1 s1) (b := plN (cp c 1) m2 s2) (by omega) (by omega) a12
  have h123 := or_add (a := plN (cp c 0) m1 s1 ||| plN (cp c 1) m2 s2) (b := plN (cp c 2) m3 s3) (by omega) (by omega) (or_and.2 ⟨a13, a23⟩)
  have e : valN m1 m2 m3 s1 s2 s3 c = plN (cp c 0) m1 s1 ||| plN (cp c 1) m2 s2 ||| plN (cp c 2) m3 s3 := by unfold valN; omega
  have b1 : plN (cp c 0) m1 s1 &&& allN m1 m2 m3 s1 s2 s3 = plN (cp c 0) m1 s1 := sub_left (sub_left (plN_sub hn hv.p1 (cp_bd c 0)))
  have b2 : plN (cp c 1) m2 s2 &&& allN m1 m2 m3 s1 s2 s3 = plN (cp c 1) m2 s2 := sub_left (sub_right (plN_sub hn hv.p2 (cp_bd c 1)))
  have b3 : plN (cp c 2) m3 s3 &&& allN m1 m2 m3 s1 s2 s3 = plN (cp c 2) m3 s3 := sub_right (plN_sub hn hv.p3 (cp_bd c 2))
  rw [e, Nat.and_or_distrib_right, Nat.and_or_distrib_right, b1, b2, b3]
theorem allN_lt {n d : Int} {tr : Bool} {m1 m2 m3 s1 s2 s3 : Int} (hv : Vd n d tr m1 m2 m3 s1 s2 s3) : allN m1 m2 m3 s1 s2 s3 < 2 ^ n.toNat := by
  have hn : n ≤ 32 := by have := hv.bits; omega
  exact Nat.or_lt_two_pow (Nat.or_lt_two_pow (mkN_bd hn hv.p1).2.1 (mkN_bd hn hv.p2).2.1) (mkN_bd hn hv.p3).2.1
theorem valN_le {n d : Int} {tr : Bool} {m1 m2 m3 s1 s2 s3 : Int} (hv : Vd n d tr m1 m2 m3 s1 s2 s3) (c : Int) : valN m1 m2 m3 s1 s2 s3 c ≤ allN m1 m2 m3 s1 s2 s3 := by
  have h := valN_sub hv c
  have h2 : valN m1 m2 m3 s1 s2 s3 c &&& allN m1 m2 m3 s1 s2 s3 ≤ allN m1 m2 m3 s1 s2 s3 := Nat.and_le_right
  omega
theorem valN_low {n d : Int} {tr : Bool} {m1 m2 m3 s1 s2 s3 : Int} (hv : Vd n d tr m1 m2 m3 s1 s2 s3) (c : Int) (h : allN m1 m2 m3 s1 s2 s3 % 256 = 0) : valN m1 m2 m3 s1 s2 s3 c % 256 = 0 := by
  have h1 := valN_sub hv c
  have h2 : ∀ q : Nat, q &&& 255 = q % 256 := fun q => Nat.and_two_pow_sub_one_eq_mod q 8
  have h3 : (valN m1 m2 m3 s1 s2 s3 c &&& allN m1 m2 m3 s1 s2 s3) &&& 255 = 0 := by
    rw [Nat.and_assoc, h2, h, Nat.and_zero]
  rw [h1, h2] at h3
  exact h3
theorem shl_one {n : Int} (h : n = 8 ∨ n = 16 ∨ n = 32) : shl .i64 1 n = 2 ^ n.toNat := by
  rcases h with rfl | rfl | rfl <;> decide
theorem and_bits {n : Int} (h : n = 8 ∨ n = 16 ∨ n = 32) (a : Int) : Go.bits .and .i64 a (wrap64 (shl .i64 1 n - 1)) = a % 2 ^ n.toNat := by
  rw [shl_one h]
  rcases h with rfl | rfl | rfl
  · have := and_any a 8 (by decide)
    rw [show wrap64 ((2 : Int) ^ (8 : Int).toNat - 1) = ((2 ^ 8 - 1 : Nat) : Int) by decide +kernel, this, show (2 : Nat) ^ 8 = 256 from rfl, show (2 : Int) ^ (8 : Int).toNat = 256 by decide]
    omega
  · have := and_any a 16 (by decide)
    rw [show wrap64 ((2 : Int) ^ (16 : Int).toNat - 1) = ((2 ^ 16 - 1 : Nat) : Int) by decide +kernel, this, show (2 : Nat) ^ 16 = 65536 from rfl, show (2 : Int) ^ (16 : Int).toNat = 65536 by decide]
    omega
  · have := and_any a 32 (by decide)
    rw [show wrap64 ((2 : Int) ^ (32 : Int).toNat - 1) = ((2 ^ 32 - 1 : Nat) : Int) by decide +kernel, this, show (2 : Nat) ^ 32 = 4294967296 from rfl, show (2 : Int) ^ (32 : Int).toNat = 4294967296 by decide]
    omega
theorem cut_val {n : Int} (h : n = 8 ∨ n = 16 ∨ n = 32) (v : Nat) (hv : v < 2 ^ n.toNat) (s : Nat) : cutI n (v : Int) s = ((v / 2 ^ s : Nat) : Int) := by
  have hw : wrap64 n = n := by rw [w64 (by omega) (by omega)]
  unfold cutI
  rw [hw, and_bits h]
  have e : ((v : Int) % 2 ^ n.toNat) = v := by
    have : ((v % 2 ^ n.toNat : Nat) : Int) = ((v : Int) % 2 ^ n.toNat) := by push_cast; rfl
    rw [← this, Nat.mod_eq_of_lt hv]
  rw [e, Int.natCast_ediv]
  push_cast; rfl
/-- A value in as few bytes as it needs is read again. -/
theorem back_val {n d : Int} {tr : Bool} {m1 m2 m3 s1 s2 s3 : Int} (hv : Vd n d tr m1 m2 m3 s1 s2 s3) (bg : Bool) (c : Int) (t : ByteArray) (z s : Nat)
    (h : (n = 32 ∧ d ≤ 24 ∧ allN m1 m2 m3 s1 s2 s3 < 16777216 ∧ z = 3 ∧ s = 0) ∨ (n = 32 ∧ d ≤ 24 ∧ ¬ allN m1 m2 m3 s1 s2 s3 < 16777216 ∧ allN m1 m2 m3 s1 s2 s3 % 256 = 0 ∧ z = 3 ∧ s = 8) ∨ (¬ (n = 32 ∧ d ≤ 24 ∧ (allN m1 m2 m3 s1 s2 s3 < 16777216 ∨ allN m1 m2 m3 s1 s2 s3 % 256 = 0)) ∧ n = 8 * z ∧ s = 0)) :
    shl .i64 (beN (ordL bg (bytesOf (strOfNums (if bg = true then (leB (cutI n (valN m1 m2 m3 s1 s2 s3 c : Int) s) z).reverse else leB (cutI n (valN m1 m2 m3 s1 s2 s3 c : Int) s) z) ++ t)) z)) (s : Int) = (valN m1 m2 m3 s1 s2 s3 c : Int) := by
  have hle := valN_le hv c
  have hlt := allN_lt hv
  rw [back_num, cut_val hv.bits _ (by omega)]
  rcases h with ⟨h1, h2, h3, rfl, rfl⟩ | ⟨h1, h2, h3, h4, rfl, rfl⟩ | ⟨h1, h2, rfl⟩
  · rw [show (256 : Int) ^ 3 = 16777216 by decide]
    unfold shl
    rw [IntKind.wrap_i64]
    simp
    omega
  · have h5 := valN_low hv c h4
    subst h1
    rw [show (2 : Nat) ^ (32 : Int).toNat = 4294967296 by decide] at hlt
    rw [show (256 : Int) ^ 3 = 16777216 by decide, show (2 : Nat) ^ 8 = 256 by decide]
    unfold shl
    rw [IntKind.wrap_i64, show min ((8 : Nat) : Int).toNat (IntKind.bits .i64) = 8 by decide, show (2 : Int) ^ 8 = 256 by decide]
    omega
  · have h4 : (256 : Int) ^ z = 2 ^ n.toNat := by
      rw [h2, show (8 * (z : Int)).toNat = 8 * z by omega, Int.pow_mul]; rfl
    have h5 : ((valN m1 m2 m3 s1 s2 s3 c / 2 ^ 0 : Nat) : Int) % 2 ^ n.toNat = (valN m1 m2 m3 s1 s2 s3 c : Int) := by
      rw [show valN m1 m2 m3 s1 s2 s3 c / 2 ^ 0 = valN m1 m2 m3 s1 s2 s3 c by simp]
      have e : ((valN m1 m2 m3 s1 s2 s3 c % 2 ^ n.toNat : Nat) : Int) = ((valN m1 m2 m3 s1 s2 s3 c : Nat) : Int) % 2 ^ n.toNat := by push_cast; rfl
      rw [← e, Nat.mod_eq_of_lt (by omega)]
    have h6 : (2 : Nat) ^ n.toNat ≤ 2 ^ 32 := Nat.pow_le_pow_right (by decide) (by have := hv.bits; omega)
    have h7 : (2 : Nat) ^ 32 = 4294967296 := by decide
    rw [h4, h5]
    unfold shl
    rw [IntKind.wrap_i64]
    simp
    omega
theorem bitI_ne (b : Bool) : (X.format_bitI b != 0) = b := by cases b <;> rfl
/-- A format's bytes are its bytes again, whatever stands behind. -/
theorem parse_back {n d : Int} {tr : Bool} {m1 m2 m3 s1 s2 s3 : Int} (hv : Vd n d tr m1 m2 m3 s1 s2 s3) (bg : Bool) (hb : X.format_Valid.f n d bg tr m1 m2 m3 s1 s2 s3 = some true) (t : ByteArray) (ht : t.size ≤ 1000000) : X.format_Parse.f (strOfNums (bytesL n d bg tr m1 m2 m3 s1 s2 s3) ++ t) = some (n, d, bg, tr, m1, m2, m3, s1, s2, s3, 0) := by
  have hn : n ≤ 32 := by have := hv.bits; omega
  have hn0 : 0 ≤ n := by have := hv.bits; omega
  have hd := hv.depth
  have r1 := okP_m hv.p1
  have r2 := okP_m hv.p2
  have r3 := okP_m hv.p3
  have u1 := okP_s hn hv.p1
  have u2 := okP_s hn hv.p2
  have u3 := okP_s hn hv.p3
  have hR : ∀ x ∈ bytesL n d bg tr m1 m2 m3 s1 s2 s3, 0 ≤ x ∧ x < 256 := by
    have c1 := bitI_bd bg
    have c2 := bitI_bd tr
    intro x hx
    simp only [bytesL, List.mem_cons, List.not_mem_nil, or_false] at hx
    omega
  have hsz : (strOfNums (bytesL n d bg tr m1 m2 m3 s1 s2 s3) ++ t).size = 16 + t.size := by rw [ba_size_append, strOfNums_size]; rfl
  have hl : bytesOf (strOfNums (bytesL n d bg tr m1 m2 m3 s1 s2 s3) ++ t) = bytesL n d bg tr m1 m2 m3 s1 s2 s3 ++ bytesOf t := by rw [bytes_append, bytes_str hR]
  have g : ∀ m : Int, m / 256 * 256 + m % 256 = m := fun m => by omega
  have e := parse_long _ (by omega) (by omega) _ hl true (by
    simp only [bytesL, List.cons_append, List.getD_cons_zero, List.getD_cons_succ]
    rw [bitI_ne, bitI_ne, g, g, g]
    exact hb)
  rw [e, if_pos rfl]
  simp only [bytesL, List.cons_append, List.getD_cons_zero, List.getD_cons_succ]
  rw [bitI_ne, bitI_ne, g, g, g]
end Go.Proofs.Ytaielfghgmghgaa.F
