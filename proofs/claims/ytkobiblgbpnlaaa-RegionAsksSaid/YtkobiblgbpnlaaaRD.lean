/- The document's functions on regions, in plain words. No condition. -/
import Derived.Test.YtkobiblgbpnlaaaRB
import Derived.Test.YtkobiblgbpnlaaaXx23
import Derived.Test.YtkobiblgbpnlaaaXx24
import Derived.Test.YtkobiblgbpnlaaaXx25
import Derived.Test.YtkobiblgbpnlaaaXx26
import Derived.Test.YtkobiblgbpnlaaaXx27
import Derived.Test.YtkobiblgbpnlaaaXx28
namespace Go.Proofs.Ytkobiblgbpnlaaa.RT
open Go.Proofs.Ytkobiblgbpnlaaa Go.Proofs.Ytkobiblgbpnlaaa.X Go.RowKit Go.Proofs.YtkobiblgbpnlaaaW.PrintWords Go.Proofs.YtkobiblgbpnlaaaW.PrintLast Go.Proofs.YtkobiblgbpnlaaaW.PrintMore
set_option linter.unusedVariables false
set_option linter.unusedSimpArgs false
theorem dnear_f (a : Int) : miradorref15_near.f a = some (decide (-1048576 ≤ a) && decide (a ≤ 1048576)) := by
  unfold miradorref15_near.f
  by_cases h : a ≥ -1048576
  · rw [if_pos h]; simp [show -1048576 ≤ a from h]
  · rw [if_neg h]; simp [show ¬ -1048576 ≤ a from h]
theorem nope {r : SR} (h : ¬ cntS r = true) : (some false : Option Bool) = some (cntS r) := by rw [Bool.eq_false_iff.mpr h]
theorem dcounts_f (r : SR) : miradorref15_Counts.f r.f0 r.f1 r.f2 r.f3 = some (cntS r) := by
  unfold miradorref15_Counts.f
  rw [dnear_f r.f0, Option.bind_some]
  by_cases n0 : (decide (-1048576 ≤ r.f0) && decide (r.f0 ≤ 1048576)) = true
  · rw [if_pos n0, dnear_f r.f1, Option.bind_some]
    by_cases n1 : (decide (-1048576 ≤ r.f1) && decide (r.f1 ≤ 1048576)) = true
    · rw [if_pos n1]
      by_cases h2 : r.f2 ≥ 1
      · rw [if_pos h2]
        by_cases h3 : r.f3 ≥ 1
        · rw [if_pos h3]
          by_cases h4 : r.f2 ≤ 2097152
          · rw [if_pos h4]
            by_cases h5 : r.f3 ≤ 2097152
            · simp only [Bool.and_eq_true, decide_eq_true_eq] at n0 n1
              rw [if_pos h5, wrap_id (x := r.f0 + r.f2) (by omega) (by omega), wrap_id (x := r.f1 + r.f3) (by omega) (by omega), dnear_f (r.f0 + r.f2), Option.bind_some]
              by_cases n6 : (decide (-1048576 ≤ r.f0 + r.f2) && decide (r.f0 + r.f2 ≤ 1048576)) = true
              · rw [if_pos n6, dnear_f, Option.bind_some]
                congr 1
                rw [Bool.eq_iff_iff, cntS_iff]
                simp only [Bool.and_eq_true, decide_eq_true_eq] at n6 ⊢
                omega
              · rw [if_neg n6]
                exact nope (fun hc => n6 (by have := (cntS_iff r).1 hc; simp only [Bool.and_eq_true, decide_eq_true_eq]; omega))
            · rw [if_neg h5]; exact nope (fun hc => h5 (by have := (cntS_iff r).1 hc; omega))
          · rw [if_neg h4]; exact nope (fun hc => h4 (by have := (cntS_iff r).1 hc; omega))
        · rw [if_neg h3]; exact nope (fun hc => h3 (by have := (cntS_iff r).1 hc; omega))
      · rw [if_neg h2]; exact nope (fun hc => h2 (by have := (cntS_iff r).1 hc; omega))
    · rw [if_neg n1]; exact nope (fun hc => n1 (by have := (cntS_iff r).1 hc; simp only [Bool.and_eq_true, decide_eq_true_eq]; omega))
  · rw [if_neg n0]; exact nope (fun hc => n0 (by have := (cntS_iff r).1 hc; simp only [Bool.and_eq_true, decide_eq_true_eq]; omega))
theorem has_cons (r : SR) (l : List SR) (x y : Int) : RG.has ((r :: l).map tr) x y = ((cntS r && (decide (r.f0 ≤ x) && decide (x < r.f0 + r.f2) && decide (r.f1 ≤ y) && decide (y < r.f1 + r.f3))) || RG.has (l.map tr) x y) := by
  rw [Bool.eq_iff_iff, RG.has_iff, Bool.or_eq_true, RG.has_iff]
  simp only [Bool.and_eq_true, decide_eq_true_eq]
  constructor
  · rintro ⟨q, hq, h1, h2, h3, h4, h5⟩
    rw [List.map_cons] at hq
    rcases List.mem_cons.1 hq with rfl | hq
    · exact .inl ⟨(cnt_tr r).symm.trans h1, ⟨⟨h4, h5⟩, h2⟩, h3⟩
    · exact .inr ⟨q, hq, h1, h2, h3, h4, h5⟩
  · rintro (⟨h1, ⟨⟨h4, h5⟩, h2⟩, h3⟩ | ⟨q, hq, h⟩)
    · exact ⟨tr r, by simp, (cnt_tr r).trans h1, h2, h3, h4, h5⟩
    · exact ⟨q, by rw [List.map_cons]; exact List.mem_cons_of_mem _ hq, h⟩
theorem dhas_l0 (l : List SR) (x y : Int) : ∀ (m k i : Nat), i + m = l.length → m < k → i + m ≤ 1000000000 → miradorref15_Has.l0 k l x y (i : Int) = some (RG.has ((l.drop i).map tr) x y) := by
  intro m
  induction m with
  | zero =>
    intro k i h hk _
    obtain ⟨k, rfl⟩ : ∃ q, k = q + 1 := ⟨k - 1, by omega⟩
    rw [miradorref15_Has.l0, if_neg (by omega), List.drop_of_length_le (by omega)]
    rfl
  | succ m ih =>
    intro k i h hk hi
    obtain ⟨k, rfl⟩ : ∃ q, k = q + 1 := ⟨k - 1, by omega⟩
    have hlt : i < l.length := by omega
    have hn := ih k (i + 1) (by omega) (by omega) (by omega)
    rw [miradorref15_Has.l0, if_pos (by omega), if_pos (by omega), rd26_at l i hlt, dcounts_f, Option.bind_some, wrap_next i (by omega), List.drop_eq_getElem_cons hlt, has_cons, hn]
    generalize l[i] = r
    generalize RG.has ((l.drop (i + 1)).map tr) x y = q
    by_cases hc : cntS r = true
    · have hcx := (cntS_iff r).1 hc
      rw [if_pos hc, wrap_id (x := r.f0 + r.f2) (by omega) (by omega), wrap_id (x := r.f1 + r.f3) (by omega) (by omega), hc]
      by_cases a1 : x ≥ r.f0
      · rw [if_pos a1, decide_eq_true (show r.f0 ≤ x from a1)]
        by_cases a2 : x < r.f0 + r.f2
        · rw [if_pos a2, decide_eq_true a2]
          by_cases a3 : y ≥ r.f1
          · rw [if_pos a3, decide_eq_true (show r.f1 ≤ y from a3)]
            by_cases a4 : y < r.f1 + r.f3
            · rw [if_pos a4, decide_eq_true a4]; rfl
            · rw [if_neg a4, decide_eq_false a4]; simp
          · rw [if_neg a3, decide_eq_false (show ¬ r.f1 ≤ y from a3)]; simp
        · rw [if_neg a2, decide_eq_false a2]; simp
      · rw [if_neg a1, decide_eq_false (show ¬ r.f0 ≤ x from a1)]; simp
    · rw [if_neg hc, Bool.eq_false_iff.mpr hc]; simp
theorem dhas_f (k : Nat) (l : List SR) (x y : Int) (hk : l.length < k) (hl : l.length ≤ 1000000000) : miradorref15_Has.f k l x y = some (RG.has (l.map tr) x y) := by
  have h := dhas_l0 l x y l.length k 0 (by omega) hk (by omega)
  rw [List.drop_zero] at h
  exact h
/-- What is asked for, by its number. -/
def kop (op : Int) (p q : Bool) : Bool := if op = 0 then p || q else if op = 1 then p && !q else p && q
theorem din_f (k : Nat) (op : Int) (a b : List SR) (x y : Int) (ha : a.length < k) (hb : b.length < k) (la : a.length ≤ 1000000000) (lb : b.length ≤ 1000000000) : miradorref15_in.f k op a b x y = some (kop op (RG.has (a.map tr) x y) (RG.has (b.map tr) x y)) := by
  unfold miradorref15_in.f kop
  rw [dhas_f k a x y ha la, Option.bind_some, dhas_f k b x y hb lb, Option.bind_some]
  by_cases h0 : op = 0
  · rw [if_pos h0, if_pos h0]; cases RG.has (a.map tr) x y <;> cases RG.has (b.map tr) x y <;> rfl
  · rw [if_neg h0, if_neg h0]
    by_cases h1 : op = 1
    · rw [if_pos h1, if_pos h1]; cases RG.has (a.map tr) x y <;> cases RG.has (b.map tr) x y <;> rfl
    · rw [if_neg h1, if_neg h1]; cases RG.has (a.map tr) x y <;> cases RG.has (b.map tr) x y <;> rfl
theorem rdi_mid (pre rest : List Int) (r : Int) : rd (pre ++ r :: rest) (pre.length : Int) = r := by
  unfold rd; rw [Int.toNat_natCast]; simp
theorem dput_done (n : Int) : ∀ (rest pre out : List Int) (k : Nat), 2 * rest.length < k → out.length + rest.length ≤ 1000000 → pre.length + rest.length ≤ 1000000 → miradorref15_put.l0 k (pre ++ rest) n out true (pre.length : Int) = some (out ++ rest) := by
  intro rest
  induction rest with
  | nil =>
    intro pre out k hk _ _
    obtain ⟨k, rfl⟩ : ∃ q, k = q + 1 := ⟨k - 1, by omega⟩
    rw [miradorref15_put.l0, if_neg (by simp), if_pos rfl, List.append_nil]
  | cons r rest ih =>
    intro pre out k hk hl hp
    simp only [List.length_cons] at hk hl hp
    obtain ⟨k, rfl⟩ : ∃ q, k = q + 2 := ⟨k - 2, by omega⟩
    have h1 := ih (pre ++ [r]) (out ++ [r]) k (by omega) (by simp; omega) (by simp; omega)
    have hq : (((pre ++ [r]).length : Nat) : Int) = ((pre.length + 1 : Nat) : Int) := by simp
    rw [miradorref15_put.l0, if_pos (by simp; omega), if_pos rfl, miradorref15_put.j1, if_neg (by decide), if_pos (by omega), if_pos (by simp; omega), if_pos (by omega), rdi_mid, wrap_next pre.length (by omega), ← hq, show pre ++ r :: rest = (pre ++ [r]) ++ rest by simp, h1]
    simp
theorem dput_l0 (n : Int) : ∀ (rest pre : List Int) (k : Nat), 2 * rest.length < k → pre.length + rest.length ≤ 900000 → miradorref15_put.l0 k (pre ++ rest) n pre false (pre.length : Int) = some (pre ++ RG.putI rest n) := by
  intro rest
  induction rest with
  | nil =>
    intro pre k hk hp
    obtain ⟨k, rfl⟩ : ∃ q, k = q + 1 := ⟨k - 1, by omega⟩
    simp only [List.length_nil] at hp
    rw [miradorref15_put.l0, if_neg (by simp), if_neg (by decide), if_pos (by omega)]
    rfl
  | cons r rest ih =>
    intro pre k hk hp
    simp only [List.length_cons] at hk hp
    obtain ⟨k, rfl⟩ : ∃ q, k = q + 2 := ⟨k - 2, by omega⟩
    have hq : (((pre ++ [r]).length : Nat) : Int) = ((pre.length + 1 : Nat) : Int) := by simp
    have e : pre ++ r :: rest = (pre ++ [r]) ++ rest := by simp
    rw [miradorref15_put.l0, if_pos (by simp; omega), if_neg (by decide), if_pos (by omega), rdi_mid]
    unfold RG.putI
    by_cases h1 : n ≤ r
    · rw [decide_eq_true h1, miradorref15_put.j1, if_pos rfl, if_pos (by omega), if_pos (by simp; omega), rdi_mid, wrap_next pre.length (by omega)]
      by_cases h2 : n < r
      · rw [if_pos h2, if_pos (by omega), Option.bind_some, if_pos (by simp; omega), if_pos h2, ← hq, e, dput_done n rest (pre ++ [r]) (pre ++ [n] ++ [r]) k (by omega) (by simp; omega) (by simp; omega)]
        simp
      · rw [if_neg h2, if_pos (by omega), if_neg h2, if_pos (by omega), ← hq, e, dput_done n rest (pre ++ [r]) (pre ++ [r]) k (by omega) (by simp; omega) (by simp; omega)]
        all_goals simp
    · rw [decide_eq_false h1, miradorref15_put.j1, if_neg (by decide), if_pos (by omega), if_pos (by simp; omega), if_pos (by omega), rdi_mid, wrap_next pre.length (by omega), if_neg (by omega), if_neg (by omega), ← hq, e, ih (pre ++ [r]) k (by omega) (by simp; omega)]
      simp
theorem dput_f (k : Nat) (l : List Int) (n : Int) (hk : 2 * l.length < k) (hl : l.length ≤ 900000) : miradorref15_put.f k l n = some (RG.putI l n) := by
  have h := dput_l0 n l [] k hk (by simpa using hl)
  exact h
theorem dborders_l0 : ∀ (rest pre : List SR) (xs ys : List Int) (k : Nat), 400000 + rest.length < k → xs.length + 2 * rest.length ≤ 100000 → ys.length + 2 * rest.length ≤ 100000 → pre.length + rest.length ≤ 1000000 →
    miradorref15_Borders.l0 k (pre ++ rest) xs ys (pre.length : Int) = some ((xendsS (rest.filter cntS)).foldl RG.putI xs, (yendsS (rest.filter cntS)).foldl RG.putI ys) := by
  intro rest
  induction rest with
  | nil =>
    intro pre xs ys k hk _ _ _
    obtain ⟨k, rfl⟩ : ∃ q, k = q + 1 := ⟨k - 1, by omega⟩
    rw [miradorref15_Borders.l0, if_neg (by simp)]
    rfl
  | cons r rest ih =>
    intro pre xs ys k hk hx hy hp
    simp only [List.length_cons] at hk hx hy hp
    obtain ⟨k, rfl⟩ : ∃ q, k = q + 1 := ⟨k - 1, by omega⟩
    have hq : (((pre ++ [r]).length : Nat) : Int) = ((pre.length + 1 : Nat) : Int) := by simp
    have e : pre ++ r :: rest = (pre ++ [r]) ++ rest := by simp
    have hrd : rd_T26 (pre ++ r :: rest) (pre.length : Int) = r := by rw [rd26_at _ pre.length (by simp)]; simp
    rw [miradorref15_Borders.l0, if_pos (by simp; omega), if_pos (by omega), hrd, dcounts_f, Option.bind_some, wrap_next pre.length (by omega)]
    by_cases hc : cntS r = true
    · have hcx := (cntS_iff r).1 hc
      have l1 := RG.putI_len xs r.f0
      have l2 := RG.putI_len (RG.putI xs r.f0) (r.f0 + r.f2)
      have l3 := RG.putI_len ys r.f1
      have l4 := RG.putI_len (RG.putI ys r.f1) (r.f1 + r.f3)
      rw [if_pos hc, wrap_id (x := r.f0 + r.f2) (by omega) (by omega), wrap_id (x := r.f1 + r.f3) (by omega) (by omega), dput_f k xs _ (by omega) (by omega), Option.bind_some, dput_f k _ _ (by omega) (by omega), Option.bind_some, dput_f k ys _ (by omega) (by omega), Option.bind_some, dput_f k _ _ (by omega) (by omega), Option.bind_some, ← hq, e, ih (pre ++ [r]) _ _ k (by omega) (by omega) (by omega) (by simp; omega), List.filter_cons, if_pos hc]
      rfl
    · rw [if_neg hc, ← hq, e, ih (pre ++ [r]) xs ys k (by omega) (by omega) (by omega) (by simp; omega), List.filter_cons, if_neg hc]
theorem dborders_f (k : Nat) (l : List SR) (hk : 500000 < k) (hl : l.length ≤ 50000) : miradorref15_Borders.f k l = some (RG.isrt (xendsS (l.filter cntS)), RG.isrt (yendsS (l.filter cntS))) :=
  dborders_l0 l [] [] [] k (by omega) (by simp; omega) (by simp; omega) (by simp; omega)
theorem sameXW_len : ∀ (a b : List RG.Rect), a.length ≠ b.length → RG.sameXW a b = false
  | [], [], h => absurd rfl h
  | [], _ :: _, _ => rfl
  | _ :: _, [], _ => rfl
  | r :: a, s :: b, h => by
    unfold RG.sameXW
    rw [sameXW_len a b (fun e => h (by simp [e])), Bool.and_false]
theorem dsame_l0 (a b : List SR) (hab : a.length = b.length) : ∀ (m k i : Nat), i + m = a.length → m < k → i + m ≤ 1000000000 → miradorref15_same.l0 k a b (i : Int) = some (RG.sameXW ((a.drop i).map tr) ((b.drop i).map tr)) := by
  intro m
  induction m with
  | zero =>
    intro k i h hk _
    obtain ⟨k, rfl⟩ : ∃ q, k = q + 1 := ⟨k - 1, by omega⟩
    rw [miradorref15_same.l0, if_neg (by omega), List.drop_of_length_le (by omega), List.drop_of_length_le (by omega)]
    rfl
  | succ m ih =>
    intro k i h hk hi
    obtain ⟨k, rfl⟩ : ∃ q, k = q + 1 := ⟨k - 1, by omega⟩
    have h1 : i < a.length := by omega
    have h2 : i < b.length := by omega
    rw [miradorref15_same.l0, if_pos (by omega), if_pos (by omega), if_pos (by omega), rd26_at a i h1, rd26_at b i h2, wrap_next i (by omega), List.drop_eq_getElem_cons h1, List.drop_eq_getElem_cons h2, ih k (i + 1) (by omega) (by omega) (by omega), List.map_cons, List.map_cons]
    generalize a[i] = x
    generalize b[i] = y
    generalize (a.drop (i + 1)).map tr = p
    generalize (b.drop (i + 1)).map tr = q
    rw [RG.sameXW]
    by_cases g0 : x.f0 = y.f0
    · rw [if_pos g0]
      by_cases g1 : x.f2 = y.f2
      · rw [if_pos g1, decide_eq_true (show (tr x).1 = (tr y).1 from g0), decide_eq_true (show (tr x).2.2.1 = (tr y).2.2.1 from g1)]; rfl
      · rw [if_neg g1, decide_eq_false (show ¬ (tr x).2.2.1 = (tr y).2.2.1 from g1)]; simp
    · rw [if_neg g0, decide_eq_false (show ¬ (tr x).1 = (tr y).1 from g0)]; simp
theorem dsame_f (k : Nat) (a b : List SR) (hk : a.length < k) (hl : a.length ≤ 1000000000) : miradorref15_same.f k a b = some (RG.sameXW (a.map tr) (b.map tr)) := by
  unfold miradorref15_same.f
  by_cases h : a.length = b.length
  · rw [if_pos (by omega)]
    have g := dsame_l0 a b h a.length k 0 (by omega) hk (by omega)
    rw [List.drop_zero, List.drop_zero] at g
    exact g
  · rw [if_neg (by omega), sameXW_len _ _ (by rw [List.length_map, List.length_map]; exact h)]
end Go.Proofs.Ytkobiblgbpnlaaa.RT
