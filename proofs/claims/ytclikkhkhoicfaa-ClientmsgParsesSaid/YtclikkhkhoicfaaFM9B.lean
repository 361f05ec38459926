/- A format's bytes, read again, whatever stands behind. No condition. -/
import Derived.Test.YtclikkhkhoicfaaFM9
namespace Go.Proofs.Ytclikkhkhoicfaa.F
open Go.RowKit Go.Proofs.YtclikkhkhoicfaaW.PrintWords Go.Proofs.YtclikkhkhoicfaaW.PrintLast Go.Proofs.YtclikkhkhoicfaaW.PrintMore Go.Proofs.Ytclikkhkhoicfaa.B Go.Proofs.Ytclikkhkhoicfaa.O
set_option linter.unusedVariables false
set_option linter.unusedSimpArgs false
theorem bitI_ne (b : Bool) : (X.format_bitI b != 0) = b := by cases b <;> rfl
/-- A format's bytes are its bytes again, whatever stands behind. -/
theorem parse_back {n d : Int} {tr : Bool} {m1 m2 m3 s1 s2 s3 : Int} (hv : Vd n d tr m1 m2 m3 s1 s2 s3) (bg : Bool) (hb : X.format_Valid.f n d bg tr m1 m2 m3 s1 s2 s3 = some true) (t : ByteArray) (ht : t.size ≤ 1000000) : X.format_Parse.f (strOfNums (bytesL n d bg tr m1 m2 m3 s1 s2 s3) ++ t) = some (n, d, bg, tr, m1, m2, m3, s1, s2, s3, 0) := by
  have hn : n ≤ 32 := by have := hv.bits; omega
  have hn0 : 0 ≤ n := by have := hv.bits; omega
  have hd := hv.depth
  have r1 := okP_m hv.p1
  have r2 := okP_m hv.p2
  have r3 := okP_m hv.p3
  have u1 := okP_s hn hv.p1
  have u2 := okP_s hn hv.p2
  have u3 := okP_s hn hv.p3
  have hR : ∀ x ∈ bytesL n d bg tr m1 m2 m3 s1 s2 s3, 0 ≤ x ∧ x < 256 := by
    have c1 := bitI_bd bg
    have c2 := bitI_bd tr
    intro x hx
    simp only [bytesL, List.mem_cons, List.not_mem_nil, or_false] at hx
    omega
  have hsz : (strOfNums (bytesL n d bg tr m1 m2 m3 s1 s2 s3) ++ t).size = 16 + t.size := by rw [ba_size_append, strOfNums_size]; rfl
  have hl : bytesOf (strOfNums (bytesL n d bg tr m1 m2 m3 s1 s2 s3) ++ t) = bytesL n d bg tr m1 m2 m3 s1 s2 s3 ++ bytesOf t := by rw [bytes_append, bytes_str hR]
  have g : ∀ m : Int, m / 256 * 256 + m % 256 = m := fun m => by omega
  have e := parse_long _ (by omega) (by omega) _ hl true (by
    simp only [bytesL, List.cons_append, List.getD_cons_zero, List.getD_cons_succ]
    rw [bitI_ne, bitI_ne, g, g, g]
    exact hb)
  rw [e, if_pos rfl]
  simp only [bytesL, List.cons_append, List.getD_cons_zero, List.getD_cons_succ]
  rw [bitI_ne, bitI_ne, g, g, g]
end Go.Proofs.Ytclikkhkhoicfaa.F
