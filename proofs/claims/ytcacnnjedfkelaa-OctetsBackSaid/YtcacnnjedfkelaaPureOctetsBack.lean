/- OctetsBack: what is written is read again, and nothing of what stands behind it. No condition. -/
import Derived.Test.YtcacnnjedfkelaaO2
import Derived.Test.YtcacnnjedfkelaaO3
namespace Go.Proofs.Ytcacnnjedfkelaa.Pure
open Go.RowKit Go.Proofs.Ytcacnnjedfkelaa.X Go.Proofs.Ytcacnnjedfkelaa.B Go.Proofs.Ytcacnnjedfkelaa.O Go.Proofs.YtcacnnjedfkelaaW.PrintWords Go.Proofs.YtcacnnjedfkelaaW.PrintLast
/-- A piece of a text of four pieces is read. -/
theorem rd_piece (a b c : ByteArray) (n : Int) (h : (b.size : Int) = n) : rdB (a ++ (b ++ c)) a.size 0 n = (b, ((a ++ b).size : Int), 0) := by
  unfold rdB
  rw [if_neg (by simp), if_neg (by omega), if_neg (by rw [ba_size_append, ba_size_append]; omega)]
  have e : (a ++ (b ++ c)).extract ((a.size : Int)).toNat ((a.size : Int) + n).toNat = b := by
    rw [ba_extract_append_right _ _ _ _ (by omega), ba_extract_append_left _ _ _ _ (by omega)]
    rw [show ((a.size : Int)).toNat - a.size = 0 by omega]
    exact ba_extract_all _ _ (by omega)
  rw [e, ba_size_append]
  simp
  omega
theorem OctetsBack : miradorlaw01_OctetsBack.Pure := by
  intro s n m t hs hn hm ht
  obtain ⟨n0, n1⟩ := wf64 hn
  obtain ⟨m0, m1⟩ := wf64 hm
  refine ⟨20, ?_⟩
  unfold miradorlaw01_OctetsBack.f
  rw [works_f (by omega), Option.bind_some, if_pos rfl]
  by_cases h300 : (t.size : Int) > 300
  · rw [if_pos h300]
  rw [if_neg h300, Put_f (by omega), Little_f (by omega), Signed_f (by omega) m m0 m1]
  simp only [Option.bind_some]
  by_cases hf : fits s n
  · have hl := beL_length hf
    have hl4 : (beL s n).length ≤ 4 := by unfold fits at hf; omega
    simp only [if_pos hf, if_true]
    have hg : (sgL m).size = 0 ∧ ¬ (-2147483648 ≤ m ∧ m ≤ 2147483647) ∧ sgL m = ⟨#[]⟩ ∨ (sgL m).size = 4 ∧ (-2147483648 ≤ m ∧ m ≤ 2147483647) ∧ sgL m = strOfNums (beL 4 (m % 4294967296)) := by
      unfold sgL
      split
      · right; exact ⟨by rw [strOfNums_size]; rfl, by assumption, rfl⟩
      · left; exact ⟨rfl, by assumption, rfl⟩
    have z1 : (strOfNums (beL s n)).size = (beL s n).length := strOfNums_size _
    have z2 : (strOfNums (beL s n).reverse).size = (beL s n).length := by rw [strOfNums_size, List.length_reverse]
    have hg4 : (sgL m).size ≤ 4 := by rcases hg with h | h <;> omega
    rw [if_pos (by omega), if_pos (by rw [ba_size_append]; omega), if_pos (by rw [ba_size_append, ba_size_append]; omega)]
    unfold octets_New.f
    simp only [Option.bind_some]
    have ha : asked 0 s = 0 := by unfold asked; rw [if_neg (fun h => h.2 (by unfold fits at hf; omega))]
    generalize hA : strOfNums (beL s n) = A at *
    generalize hB : strOfNums (beL s n).reverse = B at *
    generalize hS : A ++ B ++ sgL m ++ t = S
    have S1 : S = ⟨#[]⟩ ++ (A ++ (B ++ (sgL m ++ t))) := by rw [← hS, ba_nil_append, ba_append_assoc, ba_append_assoc]
    have S2 : S = A ++ (B ++ (sgL m ++ t)) := by rw [S1, ba_nil_append]
    have S3 : S = (A ++ B) ++ (sgL m ++ t) := by rw [S2, ba_append_assoc]
    have S4 : S = (A ++ B ++ sgL m) ++ (t ++ ⟨#[]⟩) := by rw [← hS, ba_append_nil]
    have zS : S.size = A.size + B.size + (sgL m).size + t.size := by rw [← hS, ba_size_append, ba_size_append, ba_size_append]
    have r1 : rdB S 0 0 s = (A, (A.size : Int), 0) := by
      have := rd_piece ⟨#[]⟩ A (B ++ (sgL m ++ t)) s (by omega)
      rw [← S1, ba_nil_append] at this
      exact this
    have r2 : rdB S A.size 0 s = (B, ((A ++ B).size : Int), 0) := by
      have := rd_piece A B (sgL m ++ t) s (by omega)
      rw [← S2] at this
      exact this
    have zAB : (A ++ B).size = A.size + B.size := ba_size_append _ _
    rw [Int_f S 0 0 s (by omega) (by omega) (by omega), ha, r1]
    simp only [Option.bind_some]
    have b1 : beN (bytesOf A) = n := by rw [← hA, bytes_str (beL_range hf), beN_beL hf]
    have b2 : beN (bytesOf B).reverse = n := by rw [← hB, bytes_str (fun x hx => beL_range hf x (List.mem_reverse.mp hx)), List.reverse_reverse, beN_beL hf]
    rw [if_pos b1, LittleC_f S A.size 0 s (by omega) (by omega) (by omega), ha, r2]
    simp only [Option.bind_some]
    rw [if_pos b2, if_pos (by omega), miradorlaw01_OctetsBack.j0, if_neg (by simp; omega)]
    rcases hg with ⟨g0, g1, g2⟩ | ⟨g0, g1, g2⟩
    · rw [if_pos (ba_eq_nil.mpr g2), if_pos rfl, Left_f S _ _ (by omega) (by omega) (by omega)]
      simp only [Option.bind_some]
      rw [if_pos (by omega)]
      rfl
    · have gne : ¬ (sgL m).toList = ([] : List UInt8) := fun h => by
        have := ba_eq_nil.mp h
        rw [this] at g0
        exact absurd g0 (by decide)
      have r3 : rdB S (A ++ B).size 0 4 = (sgL m, ((A ++ B ++ sgL m).size : Int), 0) := by
        have := rd_piece (A ++ B) (sgL m) t 4 (by omega)
        rw [← S3] at this
        exact this
      have r4 : rdB S (A ++ B ++ sgL m).size 0 t.size = (t, ((A ++ B ++ sgL m ++ t).size : Int), 0) := by
        have := rd_piece (A ++ B ++ sgL m) t ⟨#[]⟩ t.size rfl
        rw [← S4] at this
        exact this
      have zABG : (A ++ B ++ sgL m).size = A.size + B.size + (sgL m).size := by rw [ba_size_append, ba_size_append]
      rw [if_neg gne, if_pos rfl, CSigned_f S _ _ (by omega) (by omega) (by omega), r3]
      simp only [Option.bind_some]
      have b3 : wrap64 (wrap32 (beN (bytesOf (sgL m)))) = m := by
        have hf4 : fits 4 (m % 4294967296) := by unfold fits; omega
        rw [g2, bytes_str (beL_range hf4), beN_beL hf4]
        unfold wrap64 wrap32
        omega
      rw [if_pos b3, Bytes_f S _ _ _ (by omega) (by omega) (by omega), r4]
      simp only [Option.bind_some]
      rw [if_pos trivial, hS, End_f S _ _ (by omega) (by omega) (by omega), if_neg (by omega)]
      simp only [Option.bind_some]
      rw [if_pos trivial, g0]
      rfl
  · simp only [if_neg hf]
    rw [if_neg (by decide), if_pos (ba_eq_nil.mpr rfl)]
    rw [show ((⟨#[]⟩ : ByteArray).toList == ([] : List UInt8)) = true from by rw [ba_eq_nil.mpr rfl]; rfl]
end Go.Proofs.Ytcacnnjedfkelaa.Pure
