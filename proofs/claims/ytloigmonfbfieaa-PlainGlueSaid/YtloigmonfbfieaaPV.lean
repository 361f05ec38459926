/- Colours' values in plain lists: the program's Values, the document's Values and Colours. No condition. -/
import Derived.Test.YtloigmonfbfieaaB0
import Derived.Test.YtloigmonfbfieaaXx10
import Derived.Test.YtloigmonfbfieaaXx13
namespace Go.Proofs.Ytloigmonfbfieaa.F
open Go.RowKit Go.Proofs.YtloigmonfbfieaaW.PrintWords Go.Proofs.YtloigmonfbfieaaW.PrintLast Go.Proofs.YtloigmonfbfieaaW.PrintMore Go.Proofs.Ytloigmonfbfieaa.B
set_option linter.unusedVariables false
set_option linter.unusedSimpArgs false
theorem values_F (n d : Int) (bg tr : Bool) (m1 m2 m3 s1 s2 s3 : Int) (V : Int → Int) (hV : ∀ c, X.format_Value.f n d bg tr m1 m2 m3 s1 s2 s3 c = some (V c)) : ∀ l : List Int, X.plain_Values_F n d bg tr m1 m2 m3 s1 s2 s3 l = some (l.map V)
  | [] => rfl
  | c :: l => by
    simp only [X.plain_Values_F]
    refine bind_eq (hV c) ?_
    exact bind_eq (values_F n d bg tr m1 m2 m3 s1 s2 s3 V hV l) rfl
theorem Values_f (n d : Int) (bg tr : Bool) (m1 m2 m3 s1 s2 s3 : Int) (V : Int → Int) (hV : ∀ c, X.format_Value.f n d bg tr m1 m2 m3 s1 s2 s3 c = some (V c)) (l : List Int) (hl : l.length < 17592186044416) : X.plain_Values.f n d bg tr m1 m2 m3 s1 s2 s3 l = some (l.map V) := by
  unfold X.plain_Values.f
  rw [if_pos hl]
  exact values_F n d bg tr m1 m2 m3 s1 s2 s3 V hV l
theorem rd_nat (l : List Int) (i : Nat) (h : i < l.length) : rd l (i : Int) = l[i] := by
  unfold rd; rw [Int.toNat_natCast, List.getD_eq_getElem?_getD, List.getElem?_eq_getElem h]; rfl
theorem drop_at (l : List Int) (i : Nat) (h : i < l.length) : l.drop i = l[i] :: l.drop (i + 1) := List.drop_eq_getElem_cons h
theorem rValues_f (n d : Int) (bg tr : Bool) (m1 m2 m3 s1 s2 s3 : Int) (V : Int → Int) (hV : ∀ c, X.miradorref13_Value.f n d bg tr m1 m2 m3 s1 s2 s3 c = some (V c)) (l : List Int) (hl : l.length < 17592186044416) (k : Nat) (hk : l.length + 2 ≤ k) : X.miradorref16_Values.f k n d bg tr m1 m2 m3 s1 s2 s3 l = some (l.map V) := by
  have key : ∀ (q i k : Nat) (acc : List Int), i + q = l.length → q + 1 ≤ k → acc.length = i → X.miradorref16_Values.l0 k l acc (i : Int) n d bg tr m1 m2 m3 s1 s2 s3 = some (acc ++ (l.drop i).map V) := by
    intro q
    induction q with
    | zero =>
      intro i k acc hi hk ha
      obtain ⟨k, rfl⟩ : ∃ q, k = q + 1 := ⟨k - 1, by omega⟩
      simp only [X.miradorref16_Values.l0]
      rw [if_neg (by omega), List.drop_eq_nil_of_le (by omega)]
      simp
    | succ q ih =>
      intro i k acc hi hk ha
      obtain ⟨k, rfl⟩ : ∃ q, k = q + 1 := ⟨k - 1, by omega⟩
      have e2 : wrap64 ((i : Int) + 1) = ((i + 1 : Nat) : Int) := by rw [w64 (by omega) (by omega)]; push_cast; rfl
      simp only [X.miradorref16_Values.l0]
      rw [if_pos (by omega), if_pos (by omega), e2, rd_nat l i (by omega)]
      refine bind_eq (hV _) ?_
      rw [if_pos (by omega), ih (i + 1) k _ (by omega) (by omega) (by simp [ha]), drop_at l i (by omega), List.map_cons, List.append_assoc]
      rfl
  unfold X.miradorref16_Values.f
  have := key l.length 0 k [] (by omega) (by omega) rfl
  simpa using this
theorem rColours_f (n d : Int) (bg tr : Bool) (m1 m2 m3 s1 s2 s3 : Int) (V : Int → Int) (hV : ∀ c, X.miradorref13_Colour.f n d bg tr m1 m2 m3 s1 s2 s3 c = some (V c)) (l : List Int) (hl : l.length < 17592186044416) (k : Nat) (hk : l.length + 2 ≤ k) : X.miradorref16_Colours.f k n d bg tr m1 m2 m3 s1 s2 s3 l = some (l.map V) := by
  have key : ∀ (q i k : Nat) (acc : List Int), i + q = l.length → q + 1 ≤ k → acc.length = i → X.miradorref16_Colours.l0 k l acc (i : Int) n d bg tr m1 m2 m3 s1 s2 s3 = some (acc ++ (l.drop i).map V) := by
    intro q
    induction q with
    | zero =>
      intro i k acc hi hk ha
      obtain ⟨k, rfl⟩ : ∃ q, k = q + 1 := ⟨k - 1, by omega⟩
      simp only [X.miradorref16_Colours.l0]
      rw [if_neg (by omega), List.drop_eq_nil_of_le (by omega)]
      simp
    | succ q ih =>
      intro i k acc hi hk ha
      obtain ⟨k, rfl⟩ : ∃ q, k = q + 1 := ⟨k - 1, by omega⟩
      have e2 : wrap64 ((i : Int) + 1) = ((i + 1 : Nat) : Int) := by rw [w64 (by omega) (by omega)]; push_cast; rfl
      simp only [X.miradorref16_Colours.l0]
      rw [if_pos (by omega), if_pos (by omega), e2, rd_nat l i (by omega)]
      refine bind_eq (hV _) ?_
      rw [if_pos (by omega), ih (i + 1) k _ (by omega) (by omega) (by simp [ha]), drop_at l i (by omega), List.map_cons, List.append_assoc]
      rfl
  unfold X.miradorref16_Colours.f
  have := key l.length 0 k [] (by omega) (by omega) rfl
  simpa using this
end Go.Proofs.Ytloigmonfbfieaa.F
