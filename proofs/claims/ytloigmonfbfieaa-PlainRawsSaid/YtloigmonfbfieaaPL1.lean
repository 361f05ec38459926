/- Colours as they are, in plain lists: Raw, RawOf, of the program and of the document. No condition. -/
import Derived.Test.YtloigmonfbfieaaFR
import Derived.Test.YtloigmonfbfieaaFV
import Derived.Test.YtloigmonfbfieaaPV
import Derived.Test.YtloigmonfbfieaaXx3
import Derived.Test.YtloigmonfbfieaaXx4
import Derived.Test.YtloigmonfbfieaaXx11
import Derived.Test.YtloigmonfbfieaaXx9
import Derived.Test.YtloigmonfbfieaaXx1
namespace Go.Proofs.Ytloigmonfbfieaa.F
open Go.RowKit Go.Proofs.YtloigmonfbfieaaW.PrintWords Go.Proofs.YtloigmonfbfieaaW.PrintLast Go.Proofs.YtloigmonfbfieaaW.PrintMore Go.Proofs.Ytloigmonfbfieaa.B Go.Proofs.Ytloigmonfbfieaa.O
set_option linter.unusedVariables false
set_option linter.unusedSimpArgs false
theorem raw_F (k : Nat) (n d : Int) (bg tr : Bool) (m1 m2 m3 s1 s2 s3 : Int) (V : Int → Int) (P : Int → List Int) (hV : ∀ c, X.format_Value.f n d bg tr m1 m2 m3 s1 s2 s3 c = some (V c)) (hP : ∀ c, X.format_Put.f k n d bg tr m1 m2 m3 s1 s2 s3 (V c) = some (strOfNums (P c))) (h8 : ∀ c, (P c).length ≤ 8) : ∀ l : List Int, X.plain_Raw_F k n d bg tr m1 m2 m3 s1 s2 s3 l = some (strOfNums (l.flatMap P))
  | [] => rfl
  | c :: l => by
    simp only [X.plain_Raw_F]
    refine bind_eq (hV c) ?_
    refine bind_eq (hP c) ?_
    rw [if_pos (by rw [strOfNums_size]; exact h8 c)]
    refine bind_eq (raw_F k n d bg tr m1 m2 m3 s1 s2 s3 V P hV hP h8 l) ?_
    rw [str_append, List.flatMap_cons]
theorem Raw_f (k : Nat) (n d : Int) (bg tr : Bool) (m1 m2 m3 s1 s2 s3 : Int) (V : Int → Int) (P : Int → List Int) (hV : ∀ c, X.format_Value.f n d bg tr m1 m2 m3 s1 s2 s3 c = some (V c)) (hP : ∀ c, X.format_Put.f k n d bg tr m1 m2 m3 s1 s2 s3 (V c) = some (strOfNums (P c))) (h8 : ∀ c, (P c).length ≤ 8) (l : List Int) (hl : l.length < 17592186044416) : X.plain_Raw.f k n d bg tr m1 m2 m3 s1 s2 s3 l = some (strOfNums (l.flatMap P)) := by
  unfold X.plain_Raw.f
  rw [if_pos hl]
  exact raw_F k n d bg tr m1 m2 m3 s1 s2 s3 V P hV hP h8 l
theorem flat_len (P : Int → List Int) (h8 : ∀ c, (P c).length ≤ 8) : ∀ l : List Int, (l.flatMap P).length ≤ 8 * l.length
  | [] => by simp
  | c :: l => by have := flat_len P h8 l; have := h8 c; rw [List.flatMap_cons, List.length_append, List.length_cons]; omega
theorem rRaw_f (n d : Int) (bg tr : Bool) (m1 m2 m3 s1 s2 s3 : Int) (V : Int → Int) (P : Int → List Int) (hV : ∀ c, X.miradorref13_Value.f n d bg tr m1 m2 m3 s1 s2 s3 c = some (V c)) (hP : ∀ k, 20 ≤ k → ∀ c, X.miradorref13_Put.f k n d bg tr m1 m2 m3 s1 s2 s3 (V c) = some (strOfNums (P c))) (h8 : ∀ c, (P c).length ≤ 8) (l : List Int) (hl : l.length < 17592186044416) (k : Nat) (hk : l.length + 22 ≤ k) : X.miradorref16_Raw.f k n d bg tr m1 m2 m3 s1 s2 s3 l = some (strOfNums (l.flatMap P)) := by
  have key : ∀ (q i k : Nat) (acc : List Int), i + q = l.length → q + 21 ≤ k → acc.length ≤ 8 * i → X.miradorref16_Raw.l0 k l (strOfNums acc) (i : Int) n d bg tr m1 m2 m3 s1 s2 s3 = some (strOfNums (acc ++ (l.drop i).flatMap P)) := by
    intro q
    induction q with
    | zero =>
      intro i k acc hi hk ha
      obtain ⟨k, rfl⟩ : ∃ q, k = q + 1 := ⟨k - 1, by omega⟩
      simp only [X.miradorref16_Raw.l0]
      rw [if_neg (by omega), List.drop_eq_nil_of_le (by omega)]
      simp
    | succ q ih =>
      intro i k acc hi hk ha
      obtain ⟨k, rfl⟩ : ∃ q, k = q + 1 := ⟨k - 1, by omega⟩
      have e2 : wrap64 ((i : Int) + 1) = ((i + 1 : Nat) : Int) := by rw [w64 (by omega) (by omega)]; push_cast; rfl
      have h8i := h8 (l[i]'(by omega))
      simp only [X.miradorref16_Raw.l0]
      rw [if_pos (by omega), if_pos (by omega), e2, rd_nat l i (by omega)]
      refine bind_eq (hV _) ?_
      refine bind_eq (hP k (by omega) _) ?_
      rw [if_pos (by rw [strOfNums_size, strOfNums_size]; omega), str_append, ih (i + 1) k _ (by omega) (by omega) (by rw [List.length_append]; omega), drop_at l i (by omega), List.flatMap_cons, List.append_assoc]
  unfold X.miradorref16_Raw.f
  have := key l.length 0 k [] (by omega) (by omega) (by simp)
  rw [str_nil] at this
  simpa using this
/-- The colours of bytes, cnt of them. -/
def colsR (bg : Bool) (z : Nat) (C : Int → Int) : Nat → List Int → List Int
  | 0, _ => []
  | c + 1, l => C (beN (ordL bg l z)) :: colsR bg z C c (l.drop z)
theorem colsR_length (bg : Bool) (z : Nat) (C : Int → Int) : ∀ (c : Nat) (l : List Int), (colsR bg z C c l).length = c
  | 0, _ => rfl
  | c + 1, l => by simp [colsR, colsR_length bg z C c]
theorem ordL_take (bg : Bool) (l : List Int) (z m : Nat) (h : z ≤ m) : ordL bg (l.take m) z = ordL bg l z := by
  unfold ordL; rw [List.take_take, Nat.min_eq_left h]
theorem colsR_take (bg : Bool) (z : Nat) (C : Int → Int) : ∀ (c : Nat) (l : List Int) (m : Nat), c * z ≤ m → colsR bg z C c (l.take m) = colsR bg z C c l
  | 0, _, _, _ => rfl
  | c + 1, l, m, h => by
    rw [Nat.succ_mul] at h
    simp only [colsR]
    rw [ordL_take bg l z m (by omega), List.drop_take, colsR_take bg z C c _ _ (by omega)]
/-- What was written is read again. -/
theorem colsR_put (bg : Bool) (z : Nat) (C : Int → Int) (V : Int → Int) (hz : ∀ c, 0 ≤ V c ∧ V c < 256 ^ z) : ∀ (l t : List Int), colsR bg z C l.length (l.flatMap (fun c => putL bg (V c) z) ++ t) = l.map (fun c => C (V c))
  | [], _ => rfl
  | c :: l, t => by
    have h := hz c
    have e1 : ordL bg (putL bg (V c) z ++ (l.flatMap (fun c => putL bg (V c) z) ++ t)) z = (leB (V c) z).reverse := ord_put bg (leB (V c) z) _ z (leB_length _ z)
    have e2 : (putL bg (V c) z ++ (l.flatMap (fun c => putL bg (V c) z) ++ t)).drop z = l.flatMap (fun c => putL bg (V c) z) ++ t := by
      conv => lhs; arg 1; rw [← putL_length bg (V c) z]
      rw [List.drop_left]
    rw [List.flatMap_cons, List.length_cons, List.map_cons, List.append_assoc]
    simp only [colsR]
    rw [e1, e2, beN_leB, Int.emod_eq_of_lt h.1 h.2, colsR_put bg z C V hz l t]
theorem rawOf_l {n d : Int} {tr : Bool} {m1 m2 m3 s1 s2 s3 : Int} (hv : Vd n d tr m1 m2 m3 s1 s2 s3) (bg : Bool) (hb : X.format_Valid.f n d bg tr m1 m2 m3 s1 s2 s3 = some true) (z : Nat) (hz : n = 8 * z) (S : ByteArray) (at_ e : Int) :
    ∀ (c k : Nat) (x : ByteArray) (acc : List Int), x.size = c * z → c ≤ 20000000 → c + 12 ≤ k → acc.length + c ≤ 1000000000 →
      X.plain_RawOf.l0 k x acc n d bg tr m1 m2 m3 s1 s2 s3 S at_ e = some (acc ++ colsR bg z (colI m1 m2 m3 s1 s2 s3) c (bytesOf x), at_, 0)
  | 0, k, x, acc, hx, hc, hk, ha => by
    obtain ⟨k, rfl⟩ : ∃ q, k = q + 1 := ⟨k - 1, by omega⟩
    simp only [X.plain_RawOf.l0]
    rw [if_neg (by omega)]
    refine bind_eq (show X.octets_Cursor_At.f S at_ e = some (at_, S, at_, e) from rfl) ?_
    simp [colsR]
  | c + 1, k, x, acc, hx, hc, hk, ha => by
    obtain ⟨k, rfl⟩ : ∃ q, k = q + 1 := ⟨k - 1, by omega⟩
    have hbits := hv.bits
    rw [Nat.succ_mul] at hx
    have hcz : c * z ≤ 20000000 * 4 := Nat.mul_le_mul (by omega) (by omega)
    obtain ⟨z', _, hz', eg⟩ := Get_f hv hb k (by omega) x (by omega)
    obtain rfl : z' = z := by omega
    obtain ⟨z2, _, hz2, es⟩ := size_f hv bg hb
    obtain rfl : z2 = z' := by omega
    rw [if_neg (by omega)] at eg
    have he : (x.extract ((z2 : Int)).toNat x.size).size = c * z2 := by rw [ba_size_extract, Int.toNat_natCast]; omega
    have hd : bytesOf (x.extract ((z2 : Int)).toNat x.size) = (bytesOf x).drop z2 := by
      rw [bytes_extract, Int.toNat_natCast, List.take_of_length_le (by rw [bytesOf_length]; omega)]
    simp only [X.plain_RawOf.l0]
    rw [if_pos (by omega)]
    refine bind_eq eg ?_
    refine bind_eq (colI_f hv bg _ hb) ?_
    rw [if_pos (by omega)]
    refine bind_eq es ?_
    rw [if_pos (by omega), if_pos (by omega), rawOf_l hv bg hb z2 hz S at_ e c k _ _ he (by omega) (by omega) (by rw [List.length_append, List.length_singleton]; omega), hd]
    simp [colsR]
theorem area_le (w h : Int) (w1 : 0 ≤ w ∧ w ≤ 4096) (h1 : 0 ≤ h ∧ h ≤ 4096) : 0 ≤ w * h ∧ w * h ≤ 16777216 := by
  have a : w * h ≤ 4096 * h := Int.mul_le_mul_of_nonneg_right w1.2 h1.1
  have b : 0 ≤ w * h := Int.mul_nonneg w1.1 h1.1
  omega
theorem side_f (a : Int) : X.plain_side.f a = some (decide (0 ≤ a ∧ a ≤ 4096)) := by
  unfold X.plain_side.f
  split
  · congr 1; rw [Bool.eq_iff_iff]; simp; omega
  · congr 1; simp; omega
/-- May a rectangle be? -/
def fitsB (b : Bool) (w h : Int) : Bool := b && decide (0 ≤ w ∧ w ≤ 4096) && decide (0 ≤ h ∧ h ≤ 4096)
theorem Fits_f (n d : Int) (bg tr : Bool) (m1 m2 m3 s1 s2 s3 : Int) (b : Bool) (hb : X.format_Valid.f n d bg tr m1 m2 m3 s1 s2 s3 = some b) (w h : Int) : X.plain_Fits.f n d bg tr m1 m2 m3 s1 s2 s3 w h = some (fitsB b w h) := by
  unfold X.plain_Fits.f fitsB
  refine bind_eq hb ?_
  cases b with
  | false => rfl
  | true =>
    rw [if_pos rfl]
    refine bind_eq (side_f w) ?_
    by_cases hw : 0 ≤ w ∧ w ≤ 4096
    · rw [if_pos (decide_eq_true hw)]
      refine bind_eq (side_f h) ?_
      rw [decide_eq_true hw]; rfl
    · rw [if_neg (by simpa using hw), decide_eq_false hw]; rfl
theorem rFits_f (n d : Int) (bg tr : Bool) (m1 m2 m3 s1 s2 s3 : Int) (b : Bool) (k : Nat) (hb : X.miradorref13_Valid.f k n d bg tr m1 m2 m3 s1 s2 s3 = some b) (w h : Int) : X.miradorref16_Fits.f k n d bg tr m1 m2 m3 s1 s2 s3 w h = some (fitsB b w h) := by
  unfold X.miradorref16_Fits.f fitsB
  refine bind_eq hb ?_
  cases b with
  | false => rfl
  | true =>
    rw [if_pos rfl]
    by_cases h0 : w ≥ 0
    · by_cases h1 : w ≤ 4096
      · rw [if_pos h0, if_pos h1, decide_eq_true (show 0 ≤ w ∧ w ≤ 4096 from ⟨h0, h1⟩)]
        by_cases h2 : h ≥ 0
        · rw [if_pos h2]; congr 1; rw [Bool.eq_iff_iff]; simp; omega
        · rw [if_neg h2]; congr 1; rw [decide_eq_false (show ¬ (0 ≤ h ∧ h ≤ 4096) by omega)]; rfl
      · rw [if_pos h0, if_neg h1, decide_eq_false (show ¬ (0 ≤ w ∧ w ≤ 4096) by omega)]; rfl
    · rw [if_neg h0, decide_eq_false (show ¬ (0 ≤ w ∧ w ≤ 4096) by omega)]; rfl
/-- The colours of bytes, how many bytes these are, or what is wrong. -/
def rawOfS (bg : Bool) (z : Nat) (C : Int → Int) (w h : Int) (s : ByteArray) : List Int × Int × Int :=
  if s.size < (w * h).toNat * z then ([], 0, 2) else (colsR bg z C (w * h).toNat (bytesOf s), (((w * h).toNat * z : Nat) : Int), 0)
theorem RawOf_f {n d : Int} {tr : Bool} {m1 m2 m3 s1 s2 s3 : Int} (hv : Vd n d tr m1 m2 m3 s1 s2 s3) (bg : Bool) (hb : X.format_Valid.f n d bg tr m1 m2 m3 s1 s2 s3 = some true) (z : Nat) (hz : n = 8 * z) (w h : Int) (hf : fitsB true w h = true) (s : ByteArray) (hs : s.size ≤ 4611686018427387904) (k : Nat) (hk : (w * h).toNat + 12 ≤ k) :
    X.plain_RawOf.f k n d bg tr m1 m2 m3 s1 s2 s3 w h s = some (rawOfS bg z (colI m1 m2 m3 s1 s2 s3) w h s) := by
  have hbits := hv.bits
  have hfit := hf
  unfold fitsB at hfit
  simp only [Bool.true_and, Bool.and_eq_true, decide_eq_true_eq] at hfit
  have ha := area_le w h hfit.1 hfit.2
  obtain ⟨m, hm⟩ : ∃ m : Nat, w * h = m := ⟨(w * h).toNat, by omega⟩
  have hmz : m * z ≤ 16777216 * 4 := Nat.mul_le_mul (by omega) (by omega)
  obtain ⟨z2, _, hz2, es⟩ := size_f hv bg hb
  obtain rfl : z2 = z := by omega
  have e1 : wrap64 (wrap64 (w * h) * (z2 : Int)) = ((m * z2 : Nat) : Int) := by
    rw [hm, w64 (x := (m : Int)) (by omega) (by omega), ← Int.natCast_mul, w64 (by omega) (by omega)]
  unfold X.plain_RawOf.f
  refine bind_eq ((Fits_f n d bg tr m1 m2 m3 s1 s2 s3 true hb w h).trans (congrArg some hf)) ?_
  rw [if_pos rfl]
  refine bind_eq (show X.octets_New.f s = some (s, 0, 0) from rfl) ?_
  refine bind_eq es ?_
  rw [e1]
  refine bind_eq (Bytes_f s 0 0 ((m * z2 : Nat) : Int) hs (by omega) (by omega)) ?_
  unfold rawOfS
  rw [hm, Int.toNat_natCast]
  by_cases hlt : s.size < m * z2
  · have hr : rdB s 0 0 ((m * z2 : Nat) : Int) = (⟨#[]⟩, 0, 2) := by unfold rdB; rw [if_neg (by simp), if_neg (by omega), if_pos (by omega)]
    rw [hr, if_pos hlt]
    refine bind_eq (show X.octets_Cursor_Err.f s 0 2 = some (2, s, 0, 2) from rfl) ?_
    rw [if_neg (show ¬ ((2 : Int) = 0) by decide)]
  · have hr : rdB s 0 0 ((m * z2 : Nat) : Int) = (s.extract 0 (m * z2), ((m * z2 : Nat) : Int), 0) := by
      unfold rdB; rw [if_neg (by simp), if_neg (by omega), if_neg (by omega), Int.zero_add]; rfl
    rw [hr, if_neg hlt]
    refine bind_eq (show X.octets_Cursor_Err.f s ((m * z2 : Nat) : Int) 0 = some (0, s, ((m * z2 : Nat) : Int), 0) from rfl) ?_
    rw [if_pos rfl]
    rw [hm, Int.toNat_natCast] at hk
    refine (rawOf_l hv bg hb z2 hz s _ 0 m k _ [] (by rw [ba_size_extract]; omega) (by omega) hk (by simp; omega)).trans ?_
    rw [bytes_extract, List.drop_zero, colsR_take bg z2 _ m _ _ (Nat.le_refl _), List.nil_append]
theorem RawOf_no (n d : Int) (bg tr : Bool) (m1 m2 m3 s1 s2 s3 : Int) (b : Bool) (hb : X.format_Valid.f n d bg tr m1 m2 m3 s1 s2 s3 = some b) (w h : Int) (hf : fitsB b w h = false) (s : ByteArray) (k : Nat) : X.plain_RawOf.f k n d bg tr m1 m2 m3 s1 s2 s3 w h s = some ([], 0, 1) := by
  unfold X.plain_RawOf.f
  refine bind_eq ((Fits_f n d bg tr m1 m2 m3 s1 s2 s3 b hb w h).trans (congrArg some hf)) ?_
  rw [if_neg (by decide)]
theorem step_eq (j z : Nat) (h : (j + 1) * z ≤ 80000000) : wrap64 (((j * z : Nat) : Int) + (z : Int)) = (((j + 1) * z : Nat) : Int) := by
  have h2 : (j + 1) * z = j * z + z := Nat.succ_mul j z
  generalize j * z = a at *
  rw [h2] at h ⊢
  rw [w64 (by omega) (by omega)]
  push_cast; rfl
theorem rrawOf_l {n d : Int} {tr : Bool} {m1 m2 m3 s1 s2 s3 : Int} (hv : Vd n d tr m1 m2 m3 s1 s2 s3) (bg : Bool) (z : Nat) (hz : n = 8 * z) (s : ByteArray) (hs : s.size ≤ 4611686018427387904) (m : Nat) (hm : m ≤ 20000000) (hms : m * z ≤ s.size) :
    ∀ (c j k : Nat) (acc : List Int), j + c = m → c + 22 ≤ k → acc.length = j →
      X.miradorref16_RawOf.l0 k s (z : Int) ((m * z : Nat) : Int) acc ((j * z : Nat) : Int) n d bg tr m1 m2 m3 s1 s2 s3 = some (acc ++ colsR bg z (colI m1 m2 m3 s1 s2 s3) c ((bytesOf s).drop (j * z)), ((m * z : Nat) : Int), 0)
  | 0, j, k, acc, hj, hk, ha => by
    obtain ⟨k, rfl⟩ : ∃ q, k = q + 1 := ⟨k - 1, by omega⟩
    obtain rfl : j = m := by omega
    simp only [X.miradorref16_RawOf.l0]
    rw [if_neg (by omega)]
    simp [colsR]
  | c + 1, j, k, acc, hj, hk, ha => by
    obtain ⟨k, rfl⟩ : ∃ q, k = q + 1 := ⟨k - 1, by omega⟩
    have hbits := hv.bits
    have hmz : m * z ≤ 20000000 * 4 := Nat.mul_le_mul hm (by omega)
    have hjz : (j + 1) * z ≤ m * z := Nat.mul_le_mul_right z (by omega)
    have hjz2 : (j + 1) * z = j * z + z := Nat.succ_mul j z
    have hd : bytesOf (s.extract (((j * z : Nat) : Int)).toNat s.size) = (bytesOf s).drop (j * z) := by
      rw [bytes_extract, Int.toNat_natCast, List.take_of_length_le (by rw [bytesOf_length]; omega)]
    have hds : (s.extract (((j * z : Nat) : Int)).toNat s.size).size = s.size - j * z := by rw [ba_size_extract, Int.toNat_natCast]; omega
    simp only [X.miradorref16_RawOf.l0]
    rw [if_pos (by omega), if_pos (by omega), if_pos (by omega)]
    refine bind_eq (rGetF_f hbits bg k (by omega) z hz _ (by omega)) ?_
    rw [if_neg (by omega), hd]
    refine bind_eq (rcolI_f hv bg _) ?_
    rw [if_pos (by omega), step_eq j z (by omega), rrawOf_l hv bg z hz s hs m hm hms c (j + 1) k _ (by omega) (by omega) (by simp [ha]), hjz2]
    simp [colsR]
theorem rRawOf_f {n d : Int} {tr : Bool} {m1 m2 m3 s1 s2 s3 : Int} (hv : Vd n d tr m1 m2 m3 s1 s2 s3) (bg : Bool) (k : Nat) (hb : X.miradorref13_Valid.f k n d bg tr m1 m2 m3 s1 s2 s3 = some true) (z : Nat) (hz : n = 8 * z) (w h : Int) (hf : fitsB true w h = true) (s : ByteArray) (hs : s.size ≤ 4611686018427387904) (hk : (w * h).toNat + 22 ≤ k) :
    X.miradorref16_RawOf.f k n d bg tr m1 m2 m3 s1 s2 s3 w h s = some (rawOfS bg z (colI m1 m2 m3 s1 s2 s3) w h s) := by
  have hbits := hv.bits
  have hfit := hf
  unfold fitsB at hfit
  simp only [Bool.true_and, Bool.and_eq_true, decide_eq_true_eq] at hfit
  have ha := area_le w h hfit.1 hfit.2
  obtain ⟨m, hm⟩ : ∃ m : Nat, w * h = m := ⟨(w * h).toNat, by omega⟩
  have hmz : m * z ≤ 16777216 * 4 := Nat.mul_le_mul (by omega) (by omega)
  have e1 : wrap64 (wrap64 (w * h) * (z : Int)) = ((m * z : Nat) : Int) := by
    rw [hm, w64 (x := (m : Int)) (by omega) (by omega), ← Int.natCast_mul, w64 (by omega) (by omega)]
  unfold X.miradorref16_RawOf.f
  refine bind_eq ((rFits_f n d bg tr m1 m2 m3 s1 s2 s3 true k hb w h).trans (congrArg some hf)) ?_
  rw [if_pos rfl, size_z hbits z hz, e1]
  unfold rawOfS
  rw [hm, Int.toNat_natCast]
  by_cases hlt : s.size < m * z
  · rw [if_pos (by omega), if_pos hlt]
  · rw [if_neg (by omega), if_neg hlt]
    rw [hm, Int.toNat_natCast] at hk
    have := rrawOf_l hv bg z hz s hs m (by omega) (by omega) m 0 k [] (by omega) (by omega) rfl
    rw [Nat.zero_mul, List.drop_zero, List.nil_append] at this
    exact this
theorem rRawOf_no (n d : Int) (bg tr : Bool) (m1 m2 m3 s1 s2 s3 : Int) (b : Bool) (k : Nat) (hb : X.miradorref13_Valid.f k n d bg tr m1 m2 m3 s1 s2 s3 = some b) (w h : Int) (hf : fitsB b w h = false) (s : ByteArray) : X.miradorref16_RawOf.f k n d bg tr m1 m2 m3 s1 s2 s3 w h s = some ([], 0, 1) := by
  unfold X.miradorref16_RawOf.f
  refine bind_eq ((rFits_f n d bg tr m1 m2 m3 s1 s2 s3 b k hb w h).trans (congrArg some hf)) ?_
  rw [if_neg (by decide)]
end Go.Proofs.Ytloigmonfbfieaa.F
