/- A format's sixteen bytes: the document's function. No condition. -/
import Derived.Test.YtpackckoblpbfaaFM9A
import Derived.Test.YtpackckoblpbfaaOAP
import Derived.Test.YtpackckoblpbfaaXx28
import Derived.Test.YtpackckoblpbfaaXx27
namespace Go.Proofs.Ytpackckoblpbfaa.F
open Go.RowKit Go.Proofs.YtpackckoblpbfaaW.PrintWords Go.Proofs.YtpackckoblpbfaaW.PrintLast Go.Proofs.YtpackckoblpbfaaW.PrintMore Go.Proofs.Ytpackckoblpbfaa.B Go.Proofs.Ytpackckoblpbfaa.O
set_option linter.unusedVariables false
set_option linter.unusedSimpArgs false
theorem rbytes_end (k : Nat) (l : List Int) (xs : List Int) (i : Nat) (hl : l.length ≤ i) (hx : xs.length ≤ 1000) : X.miradorref13_Bytes.l0 (k + 1) l (strOfNums xs) (i : Int) = some (joined [] xs) := by
  simp only [X.miradorref13_Bytes.l0]
  rw [if_neg (by omega), if_pos (by rw [strOfNums_size]; omega)]
  unfold joined
  simp only [pieces, List.append_nil]
  rw [← str_append]; rfl
theorem rbytes_step (k : Nat) (hk : 12 ≤ k) (l : List Int) (xs : List Int) (i : Nat) (hi : i < l.length) (hl : l.length ≤ 100) (hx : xs.length ≤ 1000) (z x : Int) (hz : z = if 4 ≤ i ∧ i ≤ 6 then 2 else 1) (hxv : l.getD i 0 = x) (hx63 : x ≤ 9223372036854775807) (ps : List (Int × Int))
    (h : fits z x → X.miradorref13_Bytes.l0 k l (strOfNums (xs ++ beL z x)) ((i + 1 : Nat) : Int) = some (joined ps (xs ++ beL z x))) : X.miradorref13_Bytes.l0 (k + 2) l (strOfNums xs) (i : Int) = some (joined ((z, x) :: ps) xs) := by
  have e1 : wrap64 ((i : Int) + 1) = ((i + 1 : Nat) : Int) := by rw [w64 (by omega) (by omega)]; push_cast; rfl
  have erd : rd l (i : Int) = x := by unfold rd; rw [Int.toNat_natCast]; exact hxv
  have done : (((X.miradorref01_Put.f k z x).bind fun bt258 => (if bt258.2 = 0 then (if (strOfNums xs).size + bt258.1.size ≤ 9223372036854775807 then (X.miradorref13_Bytes.l0 k l ((strOfNums xs) ++ bt258.1) (wrap64 ((i : Int) + 1))) else (none)) else (some (⟨#[]⟩ : ByteArray)))) : Option ByteArray) = some (joined ((z, x) :: ps) xs) := by
    refine bind_eq (rPut_f (by omega) _ _ hx63) ?_
    by_cases hf : fits z x
    · have h4 := beL_len4 hf
      rw [if_pos hf, if_pos rfl, if_pos (by rw [strOfNums_size, strOfNums_size]; omega), str_append, e1, h hf, joined_cons hf]
    · rw [if_neg hf, if_neg (by simp), joined_stop hf]
  simp only [X.miradorref13_Bytes.l0]
  rw [if_pos (show (i : Int) < (l.length : Int) by omega)]
  by_cases h4 : 4 ≤ i
  · rw [if_pos (by omega)]
    by_cases h6 : i ≤ 6
    · rw [if_pos ⟨h4, h6⟩] at hz
      subst hz
      simp only [X.miradorref13_Bytes.j1]
      rw [if_pos (by simp; omega), if_pos (by omega), if_pos (by omega), erd]
      exact done
    · rw [if_neg (fun hh => h6 hh.2)] at hz
      subst hz
      simp only [X.miradorref13_Bytes.j1]
      rw [if_neg (by simp; omega), if_pos (by omega), if_pos (by omega), erd]
      exact done
  · rw [if_neg (by omega)]
    rw [if_neg (fun hh => h4 hh.1)] at hz
    subst hz
    simp only [X.miradorref13_Bytes.j1]
    rw [if_neg (by decide), if_pos (by omega), if_pos (by omega), erd]
    exact done
theorem rbytes_f (K : Nat) (hK : 100 ≤ K) (n d : Int) (bg tr : Bool) (m1 m2 m3 s1 s2 s3 : Int) (b0 : n ≤ 9223372036854775807) (b1 : d ≤ 9223372036854775807) (b4 : m1 ≤ 9223372036854775807) (b5 : m2 ≤ 9223372036854775807) (b6 : m3 ≤ 9223372036854775807) (b7 : s1 ≤ 9223372036854775807) (b8 : s2 ≤ 9223372036854775807) (b9 : s3 ≤ 9223372036854775807) :
    X.miradorref13_Bytes.f K n d bg tr m1 m2 m3 s1 s2 s3 = some (joined (X.format_tens n d m1 m2 m3 s1 s2 s3 (X.format_bitI bg) (X.format_bitI tr)) []) := by
  obtain ⟨K, rfl⟩ : ∃ q, K = q + 40 := ⟨K - 40, by omega⟩
  have f2 : X.miradorref13_flag.f bg = some (X.format_bitI bg) := by cases bg <;> rfl
  have f3 : X.miradorref13_flag.f tr = some (X.format_bitI tr) := by cases tr <;> rfl
  have c2 : X.format_bitI bg ≤ 9223372036854775807 := by have := bitI_bd bg; omega
  have c3 : X.format_bitI tr ≤ 9223372036854775807 := by have := bitI_bd tr; omega
  unfold X.miradorref13_Bytes.f
  refine bind_eq f2 ?_
  refine bind_eq f3 ?_
  generalize X.format_bitI bg = p2 at *
  generalize X.format_bitI tr = p3 at *
  rw [← str_nil]
  unfold X.format_tens
  have L4 : ∀ {z x : Int} (xs : List Int) (m : Nat), fits z x → xs.length ≤ m → (xs ++ beL z x).length ≤ m + 4 := fun xs m hf hm => by
    have := beL_len4 hf
    rw [List.length_append]; omega
  have hl : ∀ (i : Nat) (x : Int), [n, d, p2, p3, m1, m2, m3, s1, s2, s3].getD i 0 = x → True := fun _ _ _ => trivial
  refine rbytes_step (K + 38) (by omega) _ _ 0 (by simp) (by simp) (by simp) 1 n rfl rfl b0 _ (fun h0 => ?_)
  have q0 := L4 [] 0 h0 (by simp)
  refine rbytes_step (K + 36) (by omega) _ _ 1 (by simp) (by simp) (by omega) 1 d rfl rfl b1 _ (fun h1 => ?_)
  have q1 := L4 _ _ h1 q0
  refine rbytes_step (K + 34) (by omega) _ _ 2 (by simp) (by simp) (by omega) 1 p2 rfl rfl c2 _ (fun h2 => ?_)
  have q2 := L4 _ _ h2 q1
  refine rbytes_step (K + 32) (by omega) _ _ 3 (by simp) (by simp) (by omega) 1 p3 rfl rfl c3 _ (fun h3 => ?_)
  have q3 := L4 _ _ h3 q2
  refine rbytes_step (K + 30) (by omega) _ _ 4 (by simp) (by simp) (by omega) 2 m1 rfl rfl b4 _ (fun h4 => ?_)
  have q4 := L4 _ _ h4 q3
  refine rbytes_step (K + 28) (by omega) _ _ 5 (by simp) (by simp) (by omega) 2 m2 rfl rfl b5 _ (fun h5 => ?_)
  have q5 := L4 _ _ h5 q4
  refine rbytes_step (K + 26) (by omega) _ _ 6 (by simp) (by simp) (by omega) 2 m3 rfl rfl b6 _ (fun h6 => ?_)
  have q6 := L4 _ _ h6 q5
  refine rbytes_step (K + 24) (by omega) _ _ 7 (by simp) (by simp) (by omega) 1 s1 rfl rfl b7 _ (fun h7 => ?_)
  have q7 := L4 _ _ h7 q6
  refine rbytes_step (K + 22) (by omega) _ _ 8 (by simp) (by simp) (by omega) 1 s2 rfl rfl b8 _ (fun h8 => ?_)
  have q8 := L4 _ _ h8 q7
  refine rbytes_step (K + 20) (by omega) _ _ 9 (by simp) (by simp) (by omega) 1 s3 rfl rfl b9 _ (fun h9 => ?_)
  have q9 := L4 _ _ h9 q8
  exact rbytes_end (K + 19) _ _ 10 (by simp) (by omega)
end Go.Proofs.Ytpackckoblpbfaa.F
