/- OctetsPuts: what is written of a number, either way round or with a sign, is what the reference writes. No condition. -/
import Derived.Test.YtcacnnjedfkelaaO2
namespace Go.Proofs.Ytcacnnjedfkelaa.Pure
open Go.RowKit Go.Proofs.Ytcacnnjedfkelaa.X Go.Proofs.Ytcacnnjedfkelaa.B Go.Proofs.Ytcacnnjedfkelaa.O Go.Proofs.YtcacnnjedfkelaaW.PrintWords Go.Proofs.YtcacnnjedfkelaaW.PrintLast
theorem OctetsPuts : miradorlaw01_OctetsPuts.Pure := by
  intro s n hs hn
  obtain ⟨n0, n1⟩ := wf64 hn
  refine ⟨20, ?_⟩
  unfold miradorlaw01_OctetsPuts.f
  rw [works_f (by omega), Option.bind_some, if_pos rfl, Put_f (by omega), rPut_f (by omega) _ _ n1, Little_f (by omega), Signed_f (by omega) n n0 n1, rSigned_f (by omega) n n0 n1]
  simp only [Option.bind_some, if_true]
  by_cases hf : fits s n
  · have hl : (beL s n).length ≤ 4 := by have := beL_length hf; unfold fits at hf; omega
    simp only [if_pos hf]
    rw [rTurned_f (k := 20) _ (by rw [strOfNums_size]; omega) (by rw [strOfNums_size]; omega), bytes_str (beL_range hf)]
    simp
  · simp only [if_neg hf]
    rw [rTurned_f (k := 20) _ (by decide) (by decide)]
    simp [bytes_empty, str_nil]
end Go.Proofs.Ytcacnnjedfkelaa.Pure
