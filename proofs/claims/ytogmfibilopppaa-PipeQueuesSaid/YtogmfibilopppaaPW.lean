/- The example of the pipe's document. -/
import Derived.Test.YtogmfibilopppaaPI
namespace Go.Proofs.Ytogmfibilopppaa.PI
open Go.RowKit Go.Proofs.YtogmfibilopppaaW.PrintWords Go.Proofs.YtogmfibilopppaaW.PrintLast Go.Proofs.YtogmfibilopppaaW.PrintMore Go.Proofs.Ytogmfibilopppaa.Q Go.Proofs.Ytogmfibilopppaa.BL Go.Proofs.Ytogmfibilopppaa.B
set_option linter.unusedVariables false
set_option linter.unusedSimpArgs false
set_option maxHeartbeats 4000000 in
set_option maxRecDepth 100000 in
theorem works_c (w : World) : Calls Try.prog 7 #[] w fun e w' => e = .returned (.bool true) ∧ Below w.heap.size w w' := by
  go_enter Try.func7, Try.ntmps7
  go_wp2_with fail
  refine (New_c 3 w.heap.size _ (Nat.le_refl _)).mono ?_
  rintro e w1 ⟨g, rfl, h1, hg, hb1⟩
  have H1 := Lib.hid h1
  have HB1 := Lib.hid hb1
  clear h1 hb1
  go_wp2_with fail
  refine (Put_v w.heap.size g none ⟨#[]⟩ 3 0 _ 3 ⟨#[97, 98, 99]⟩ _ H1.out HB1.out.size (by decide) (by decide) (by decide) (by decide) (by decide) (by kernel_rfl)).mono ?_
  rintro e w2 ⟨rfl, r2, h2, _, hb2, _⟩
  have H2 := Lib.hid h2
  have HB2 := Lib.hid (HB1.out.trans hb2)
  clear h2 hb2
  go_wp2_with fail
  refine (Take_v w.heap.size g r2 _ 3 0 _ ⟨#[97, 98]⟩ ⟨#[99]⟩ 2 _ H2.out HB2.out.size (by decide) (by decide) (by decide) (by decide) (by kernel_rfl) (by kernel_rfl) (by decide)).mono ?_
  rintro e w3 ⟨rfl, h3, hb3, _⟩
  have H3 := Lib.hid h3
  have HB3 := Lib.hid (HB2.out.trans hb3)
  clear h3 hb3
  go_wp2_with fail
  refine (Put_v w.heap.size g r2 _ 3 2 _ 2 ⟨#[99, 120, 121]⟩ _ H3.out HB3.out.size (by decide) (by decide) (by decide) (by decide) (by decide) (by kernel_rfl)).mono ?_
  rintro e w4 ⟨rfl, r4, h4, _, hb4, _⟩
  have H4 := Lib.hid h4
  have HB4 := Lib.hid (HB3.out.trans hb4)
  clear h4 hb4
  go_wp2_with fail
  refine (Take_v w.heap.size g r4 _ 3 2 _ ⟨#[99, 120, 121]⟩ ⟨#[]⟩ 5 _ H4.out HB4.out.size (by decide) (by decide) (by decide) (by decide) (by kernel_rfl) (by kernel_rfl) (by decide)).mono ?_
  rintro e w5 ⟨rfl, h5, hb5, _⟩
  have H5 := Lib.hid h5
  have HB5 := Lib.hid (HB4.out.trans hb5)
  clear h5 hb5
  go_wp2_with fail
  have HQ0 := Lib.hid (QAt.new 40 3 w.heap.size w5 HB5.out.size)
  have HB6 := Lib.hid (below_alloc HB5.out (.cells #[.slice none 0 0] 40))
  have HP6 := Lib.hid (H5.out.keep ((Kept.refl w5 (fun _ => False)).alloc (.cells #[.slice none 0 0] 40)) (fun h => h) (fun _ _ h => h))
  have HL := Lib.hid (show g < w5.heap.size ∧ ∀ k, r4 = some k → k < w5.heap.size from ⟨H5.out.lt, fun k hk => (H5.out.row_lt k hk).1⟩)
  refine (Put_i 40 w.heap.size w5.heap.size 0 _ none [] 4 _ HQ0.out (by decide) HB6.out.size).mono ?_
  rintro e w6 ⟨rfl, v6, r6, h6, hr6, hb6, hk6⟩
  have HQ6 := Lib.hid h6
  have HB7 := Lib.hid (HB6.out.trans hb6)
  have HP7 := Lib.hid (HP6.out.keep hk6 (by have := HL.out.1; rintro (h | h); omega; cases h) (fun q hq h => by
    have := HL.out.2 q hq
    rcases h with h | h
    · omega
    · cases h))
  have HR6 : Hid (∀ k, r6 = some k → w5.heap.size ≤ k) := Lib.hid (by
    intro k hk
    rcases hr6 with h | ⟨k2, h, h2⟩
    · rw [hk] at h; cases h
    · rw [hk] at h; injection h with h; simp at h2; omega)
  clear h6 hb6 hk6 hr6
  go_wp2_with fail
  refine (Take_i 40 w.heap.size w5.heap.size 0 _ r6 4 [] _ (by decide) HQ6.out).mono ?_
  rintro e w7 ⟨rfl, v7, h7, hb7, hk7⟩
  have HQ7 := Lib.hid h7
  have HB8 := Lib.hid (HB7.out.trans hb7)
  have HP8 := Lib.hid (HP7.out.keep hk7 (by have := HL.out.1; rintro (h | h); omega; have := HR6.out _ h; omega) (fun q hq h => by
    have := HL.out.2 q hq
    rcases h with h | h
    · omega
    · have := HR6.out _ h; omega))
  clear h7 hb7 hk7
  go_wp2_with fail
  refine (Passed_q w.heap.size g r4 _ 3 5 _ HP8.out).mono ?_
  rintro e _ ⟨rfl, rfl⟩
  go_wp2_with fail
  refine (Len_i 40 w.heap.size w5.heap.size 0 _ r6 [] _ HQ7.out).mono ?_
  rintro e _ ⟨rfl, rfl⟩
  go_wp2
  go_ret
  exact ⟨rfl, HB8.out⟩
end Go.Proofs.Ytogmfibilopppaa.PI
