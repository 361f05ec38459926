/- A screen: common facts for the laws. No condition. -/
import Derived.Test.YtjcibgopebpkiaaSCW
import Derived.Deep.Draws
namespace Go.Proofs.Ytjcibgopebpkiaa.SC
open Go.RowKit Go.Proofs.YtjcibgopebpkiaaW.PrintWords Go.Proofs.YtjcibgopebpkiaaW.PrintLast Go.Proofs.YtjcibgopebpkiaaW.PrintMore Go.Proofs.Ytjcibgopebpkiaa.B Go.Proofs.Ytjcibgopebpkiaa.SCP
set_option linter.unusedVariables false
set_option linter.unusedSimpArgs false
theorem ci_of {W : World} {a : Option Addr} {len cap : Nat} {zs : List Int} (h : (a = none ∧ len = 0 ∧ cap = 0 ∧ zs = []) ∨ ∃ x, a = some x ∧ len ≤ cap ∧ cap ≤ maxLen ∧ zs.length = cap ∧ (∀ i, i < zs.length → W.cell? (x.add i) = some (.int .i64 (zs.getD i 0))) ∧ ∀ n ∈ zs, (Lit.int .i64 n).wf = true) :
    (zs.take len).length = len ∧ len ≤ cap ∧ cap ≤ 9223372036854775807 ∧ CI W a (zs.take len) := by
  rcases h with ⟨rfl, rfl, rfl, rfl⟩ | ⟨x, rfl, hl, hm, hz, hc, hw⟩
  · exact ⟨rfl, Nat.le_refl _, by decide, Kd.C_nil _ _⟩
  · have hm' : cap ≤ 9223372036854775807 := by unfold maxLen at hm; omega
    have hll : (zs.take len).length = len := by rw [List.length_take]; omega
    refine ⟨hll, hl, hm', Kd.C_of_reads (d := 0) ⟨rfl, by omega, fun _ => ⟨x, rfl, fun j hj => ?_⟩⟩⟩
    rw [hc j (by omega)]
    rw [List.getD_eq_getElem?_getD, List.getD_eq_getElem?_getD, List.getElem?_take_of_lt (by omega)]
theorem area_20 {w h : Int} (w1 : 1 ≤ w) (w2 : w ≤ 20) (h1 : 1 ≤ h) (h2 : h ≤ 20) : 1 ≤ w * h ∧ w * h ≤ 400 := by
  have a : w * h ≤ 20 * h := Int.mul_le_mul_of_nonneg_right w2 (by omega)
  have b : 1 * h ≤ w * h := Int.mul_le_mul_of_nonneg_right w1 (by omega)
  omega
theorem lst_eq {n : Nat} {F : Nat → Int} {xs : List Int} (hn : xs.length = n) (h : ∀ i, i < n → F i = pF xs i) : lst n F = xs := by
  rw [lst_ext h, ← hn, lst_pF]
/-- All colours drawn at once. -/
theorem blit_whole {w h : Int} {F P : Nat → Int} (h1 : 1 ≤ w ∧ w ≤ 4096 ∧ 1 ≤ h ∧ h ≤ 4096) (i : Nat) (hi : i < (w * h).toNat) : blitF w 0 0 w h F P i = P i := by
  have e0 := Int.mul_ediv_add_emod (i : Int) w
  have e1 := Int.emod_nonneg (i : Int) (show w ≠ 0 by omega)
  have e2 := Int.emod_lt_of_pos (i : Int) (show 0 < w by omega)
  have e3 : 0 ≤ (i : Int) / w := Int.ediv_nonneg (by omega) (by omega)
  have e4 : (i : Int) / w < h := Int.ediv_lt_of_lt_mul (by omega) (by rw [Int.mul_comm]; omega)
  unfold blitF inR idxR
  rw [if_pos (decide_eq_true (by omega))]
  congr 1
  rw [show (i : Int) / w - 0 = (i : Int) / w by omega, Int.mul_comm]
  omega
theorem whole_in {w h : Int} (h1 : 1 ≤ w ∧ w ≤ 4096 ∧ 1 ≤ h ∧ h ≤ 4096) : inside 0 0 w h w h := by unfold inside; omega
/-- What Blit of the whole leaves, where it answers 0. -/
theorem blit_whole_ok {w h : Int} {F : Nat → Int} {xs : List Int} (h1 : 1 ≤ w ∧ w ≤ 4096 ∧ 1 ≤ h ∧ h ≤ 4096) (h0 : blitE w h 0 0 w h xs = 0) : (xs.length : Int) = w * h ∧ ∀ i, i < (w * h).toNat → blitG w h 0 0 w h xs F i = pF xs i := by
  unfold blitE at h0
  rw [if_pos (whole_in h1)] at h0
  by_cases hc : (xs.length : Int) = w * h ∧ xs.all isC = true
  · refine ⟨hc.1, fun i hi => ?_⟩
    unfold blitG
    rw [if_pos ⟨whole_in h1, hc⟩]
    exact blit_whole h1 i hi
  · rw [if_neg hc] at h0; cases h0
theorem part_whole {w h : Int} {F : Nat → Int} (h1 : 1 ≤ w ∧ w ≤ 4096 ∧ 1 ≤ h ∧ h ≤ 4096) : partXs w h 0 0 w h F = lst (w * h).toNat F ∧ partE w h 0 0 w h = 0 := by
  refine ⟨?_, if_pos (whole_in h1)⟩
  unfold partXs
  rw [if_pos (whole_in h1), Int.mul_comm h w]
  refine lst_ext (fun i hi => ?_)
  unfold partF
  congr 1
  obtain ⟨wn, rfl⟩ : ∃ wn : Nat, w = wn := ⟨w.toNat, by omega⟩
  rw [Int.toNat_natCast]
  have e0 := Nat.div_add_mod i wn
  have e1 : ((0 : Int) + (i / wn : Nat)) * (wn : Int) + 0 = ((wn * (i / wn) : Nat) : Int) := by push_cast; rw [Int.zero_add, Int.add_zero, Int.mul_comm]
  rw [e1, Int.toNat_natCast]
  exact e0
theorem at_q {B g rb : Nat} {w h : Int} {F : Nat → Int} {x y : Int} {W : World} (hs : Scr B g rb w h F W) (q : Nat) :
    Calls Try.prog 17 #[.pointer (some ⟨g, 0, none⟩), .int .i64 x, .int .i64 y] (W.drewN q) fun e w'' => e = .returned (.int .i64 (atF w h F x y)) ∧ ∃ n, w'' = W.drewN n :=
  (At_c B g rb w h F x y (W.drewN q) (hs.1.drewN q)).mono fun e w'' ⟨he, nd, hw⟩ => ⟨he, q + nd, by rw [hw, World.drewN_drewN]⟩
theorem Scr.set {B g rb : Nat} {w h : Int} {F : Nat → Int} {W : World} (hs : Scr B g rb w h F W) {k : Nat} (h1 : g ≠ k) (h2 : rb ≠ k) (j : Nat) (v : Value) : Scr B g rb w h F (W.setCell ⟨k, j, none⟩ v) :=
  hs.keep (Kept.setCell (p := ⟨k, j, none⟩) (Kept.refl W (fun q => q = k)) (.inl rfl) v) h1 h2
theorem below_put {B : Nat} {W W' : World} (hb : Below B W W') {k : Nat} (h : B ≤ k) (j : Nat) (v : Value) : Below B W (W'.setCell ⟨k, j, none⟩ v) := hb.setCell (p := ⟨k, j, none⟩) h v
theorem CI.kept {W W' : World} {A : Option Addr} {xs : List Int} {S : Nat → Prop} (h : CI W A xs) (hk : Kept W W' S) (hne : ∀ ad, A = some ad → 0 < xs.length → ¬ S ad.block) : CI W' A xs := by
  obtain ⟨h1, h2, h3⟩ := Kd.reads_of_C (d := 0) h
  refine Kd.C_of_reads (d := 0) ⟨h1, h2, fun hn => ?_⟩
  obtain ⟨ad, ha, hc⟩ := h3 hn
  refine ⟨ad, ha, fun j hj => ?_⟩
  have hcj := hc j hj
  have hb : (ad.add j).block = ad.block := add_block ad j
  have hlt : (ad.add j).block < W.heap.size := by
    rcases Nat.lt_or_ge (ad.add j).block W.heap.size with h | h
    · exact h
    · rw [World.cell?, Array.getElem?_eq_none h] at hcj; cases hcj
  rw [← hcj, World.cell?, World.cell?, hk.2 _ hlt (by rw [hb]; exact hne ad ha (by omega))]
/-- A row that has an element: its block. -/
theorem RI.form {W : World} {B : Nat} {ok : Nat → Prop} {v : Value} {xs : List Int} (h : RI W B ok v xs) (hp : 0 < xs.length) : ∃ g c, v = .slice (some ⟨g, 0, none⟩) xs.length c ∧ xs.length ≤ c ∧ c ≤ 9223372036854775807 ∧ CI W (some ⟨g, 0, none⟩) xs ∧ B ≤ g ∧ g < W.heap.size ∧ W.frozen? ⟨g, 0, none⟩ = false ∧ ∃ u, W.cell? ⟨g, 0, none⟩ = some u := by
  obtain ⟨g, c, rfl, hB, hlt, cells, hc⟩ := Kd.R_form h hp
  obtain ⟨A, c', e, h1, h2, h3, h4⟩ := RI.full h
  injection e with e1 e2 e3
  subst e1; subst e3
  obtain ⟨ad, ha, hcl⟩ := h3.pix 0 hp
  obtain rfl := Option.some.inj ha
  exact ⟨g, c, rfl, h1, h2, h3, hB, hlt, blk_frozen hc 0, _, hcl⟩
end Go.Proofs.Ytjcibgopebpkiaa.SC
