/- Raw of a format that may not be; rounds. No condition. -/
import Derived.Test.YtloigmonfbfieaaPL1
import Derived.Test.YtloigmonfbfieaaXx5
namespace Go.Proofs.Ytloigmonfbfieaa.F
open Go.RowKit Go.Proofs.YtloigmonfbfieaaW.PrintWords Go.Proofs.YtloigmonfbfieaaW.PrintLast Go.Proofs.YtloigmonfbfieaaW.PrintMore Go.Proofs.Ytloigmonfbfieaa.B Go.Proofs.Ytloigmonfbfieaa.O Go.Proofs.Ytloigmonfbfieaa.F
set_option linter.unusedVariables false
set_option linter.unusedSimpArgs false
theorem works_at (k : Nat) (hk : 200 ≤ k) : X.miradorlaw16_works.f k = some true := at_rounds (g := fun k => X.miradorlaw16_works.f k) X.miradorlaw16_works.mono hk X.miradorlaw16_works.at0
theorem raw_bad (n d : Int) (bg tr : Bool) (m1 m2 m3 s1 s2 s3 : Int) (hb : X.format_Valid.f n d bg tr m1 m2 m3 s1 s2 s3 = some false) (k : Nat) (hk : 20 ≤ k) (l : List Int) (hl : l.length < 17592186044416) : X.plain_Raw.f k n d bg tr m1 m2 m3 s1 s2 s3 l = some ⟨#[]⟩ := by
  have hV : ∀ c : Int, X.format_Value.f n d bg tr m1 m2 m3 s1 s2 s3 c = some ((fun _ => (0 : Int)) c) := fun c => by unfold X.format_Value.f; exact bind_eq hb rfl
  have hS : X.format_Size.f n d bg tr m1 m2 m3 s1 s2 s3 = some ((0 : Nat) : Int) := by unfold X.format_Size.f; exact bind_eq hb rfl
  have hP : ∀ c : Int, X.format_Put.f k n d bg tr m1 m2 m3 s1 s2 s3 ((fun _ => (0 : Int)) c) = some (strOfNums ((fun _ => ([] : List Int)) c)) := fun c => by
    unfold X.format_Put.f
    refine bind_eq hS ?_
    refine bind_eq (put_f k hk n d bg tr m1 m2 m3 s1 s2 s3 0 (by omega) 0) ?_
    cases bg <;> rfl
  rw [Raw_f k n d bg tr m1 m2 m3 s1 s2 s3 (fun _ => 0) (fun _ => []) hV hP (fun _ => by simp) l hl]
  congr 1
  have : l.flatMap (fun _ => ([] : List Int)) = [] := by simp
  rw [this]; rfl
theorem raw_ok {n d : Int} {tr : Bool} {m1 m2 m3 s1 s2 s3 : Int} (hv : Vd n d tr m1 m2 m3 s1 s2 s3) (bg : Bool) (hb : X.format_Valid.f n d bg tr m1 m2 m3 s1 s2 s3 = some true) (z : Nat) (hz : n = 8 * z) (k : Nat) (hk : 20 ≤ k) (l : List Int) (hl : l.length < 17592186044416) : X.plain_Raw.f k n d bg tr m1 m2 m3 s1 s2 s3 l = some (strOfNums (l.flatMap (fun c => putL bg (valN m1 m2 m3 s1 s2 s3 c : Int) z))) := by
  have hbits := hv.bits
  refine Raw_f k n d bg tr m1 m2 m3 s1 s2 s3 (fun c => (valN m1 m2 m3 s1 s2 s3 c : Int)) _ (fun c => valN_f hv bg c hb) (fun c => ?_) (fun c => by rw [putL_length]; omega) l hl
  obtain ⟨z2, _, hz2, e⟩ := put_all hv bg hb k hk (valN m1 m2 m3 s1 s2 s3 c : Int)
  obtain rfl : z2 = z := by omega
  exact e
theorem flat_z (bg : Bool) (z : Nat) (V : Int → Int) : ∀ l : List Int, (l.flatMap (fun c => putL bg (V c) z)).length = l.length * z
  | [] => by rw [List.flatMap_nil, List.length_nil, Nat.zero_mul]
  | c :: l => by rw [List.flatMap_cons, List.length_append, putL_length, flat_z bg z V l, List.length_cons, Nat.succ_mul]; omega
theorem flat_range (bg : Bool) (z : Nat) (V : Int → Int) (l : List Int) : ∀ x ∈ l.flatMap (fun c => putL bg (V c) z), 0 ≤ x ∧ x < 256 := by
  intro x hx
  obtain ⟨c, _, hc⟩ := List.mem_flatMap.1 hx
  exact putL_range bg _ z x hc
theorem valN_lt {n d : Int} {tr : Bool} {m1 m2 m3 s1 s2 s3 : Int} (hv : Vd n d tr m1 m2 m3 s1 s2 s3) (z : Nat) (hz : n = 8 * z) (c : Int) : 0 ≤ (valN m1 m2 m3 s1 s2 s3 c : Int) ∧ (valN m1 m2 m3 s1 s2 s3 c : Int) < 256 ^ z := by
  have hn : n ≤ 32 := by have := hv.bits; omega
  have h1 := valN_sub hv c
  have h2 : valN m1 m2 m3 s1 s2 s3 c &&& allN m1 m2 m3 s1 s2 s3 ≤ allN m1 m2 m3 s1 s2 s3 := Nat.and_le_right
  have h3 : allN m1 m2 m3 s1 s2 s3 < 2 ^ n.toNat := Nat.or_lt_two_pow (Nat.or_lt_two_pow (mkN_bd hn hv.p1).2.1 (mkN_bd hn hv.p2).2.1) (mkN_bd hn hv.p3).2.1
  have h4 : (256 : Int) ^ z = ((2 ^ n.toNat : Nat) : Int) := by rw [hz, show (8 * (z : Int)).toNat = 8 * z by omega, Nat.pow_mul, Int.natCast_pow]; rfl
  rw [h4]
  omega
end Go.Proofs.Ytloigmonfbfieaa.F
