/- A screen: the document's example. No condition. -/
import Derived.Test.YtjcibgopebpkiaaSCA
namespace Go.Proofs.Ytjcibgopebpkiaa.SC
open Go.RowKit Go.Proofs.YtjcibgopebpkiaaW.PrintWords Go.Proofs.YtjcibgopebpkiaaW.PrintLast Go.Proofs.YtjcibgopebpkiaaW.PrintMore Go.Proofs.Ytjcibgopebpkiaa.B Go.Proofs.Ytjcibgopebpkiaa.SCP
set_option linter.unusedVariables false
set_option linter.unusedSimpArgs false
theorem RI.ci {W : World} {B : Nat} {ok : Nat → Prop} {v : Value} {xs : List Int} (h : RI W B ok v xs) : ∃ A c, v = .slice A xs.length c ∧ xs.length ≤ c ∧ CI W A xs := Kd.R_reads h
theorem RI.full {W : World} {B : Nat} {ok : Nat → Prop} {v : Value} {xs : List Int} (h : RI W B ok v xs) : ∃ A c, v = .slice A xs.length c ∧ xs.length ≤ c ∧ c ≤ 9223372036854775807 ∧ CI W A xs ∧ ∀ ad, A = some ad → B ≤ ad.block := by
  obtain ⟨A, c, rfl, h1, h2⟩ := h.ci
  refine ⟨A, c, rfl, h1, ?_⟩
  rcases (Kd.own_of_R h).2 with ⟨e, h0⟩ | ⟨g, cap, cur, e, hb, hg, hnc, hcm, _⟩
  · injection e with e1 e2 e3
    subst e1; subst e3
    exact ⟨by decide, h2, fun ad h => by cases h⟩
  · injection e with e1 e2 e3
    subst e1; subst e3
    exact ⟨by unfold maxLen at hcm; omega, h2, fun ad h => by cases h; exact hb⟩
theorem pF_lst {n : Nat} {G : Nat → Int} (j : Nat) (hj : j < n) : pF (lst n G) j = G j := by
  unfold pF lst
  rw [List.getD_eq_getElem?_getD, List.getElem?_map, List.getElem?_range hj]; rfl
theorem blitF_ext {w h x y rw rh : Int} {F P Q : Nat → Int} (h1 : 1 ≤ w ∧ w ≤ 4096 ∧ 1 ≤ h ∧ h ≤ 4096) (hin : inside x y rw rh w h) (hPQ : ∀ j : Nat, (j : Int) < rw * rh → P j = Q j) (i : Nat) : blitF w x y rw rh F P i = blitF w x y rw rh F Q i := by
  have hr := rect_le h1 hin
  unfold blitF
  split
  · rename_i hR
    have := @idxR_lt w x y rw rh i (by omega) hin.2.2.1 hR (by omega)
    exact hPQ _ (by unfold idxR; omega)
  · rfl
/-- A part that is drawn elsewhere: it may be drawn. -/
theorem blit_of_part {w h x y rw rh : Int} {Fa F : Nat → Int} (h1 : 1 ≤ w ∧ w ≤ 4096 ∧ 1 ≤ h ∧ h ≤ 4096) (hin : inside x y rw rh w h) (hF : isCF (w * h).toNat Fa) :
    partE w h x y rw rh = 0 ∧ blitE w h x y rw rh (partXs w h x y rw rh Fa) = 0 ∧ ∀ i, blitG w h x y rw rh (partXs w h x y rw rh Fa) F i = blitF w x y rw rh F (partF w x y Fa rw.toNat) i := by
  have hr := rect_le h1 hin
  have hm : rh * rw = rw * rh := Int.mul_comm _ _
  have hlen : ((lst (rh * rw).toNat (partF w x y Fa rw.toNat)).length : Int) = rw * rh := by rw [lst_length]; omega
  have hall : (lst (rh * rw).toNat (partF w x y Fa rw.toNat)).all isC = true := by
    rw [List.all_eq_true]
    intro v hv
    obtain ⟨i, hi, rfl⟩ := List.mem_map.1 hv
    exact partF_isC h1 hin hF i (by have := List.mem_range.1 hi; omega)
  have e : partXs w h x y rw rh Fa = lst (rh * rw).toNat (partF w x y Fa rw.toNat) := if_pos hin
  rw [e]
  refine ⟨if_pos hin, ?_, fun i => ?_⟩
  · unfold blitE
    rw [if_pos hin, if_pos ⟨hlen, hall⟩]
  · unfold blitG
    rw [if_pos ⟨hin, hlen, hall⟩]
    exact blitF_ext h1 hin (fun j hj => pF_lst j (by omega)) i
/-- A row of three that a literal made. -/
theorem CI.lit3 (W : World) (g : Nat) (a b c : Int) (h : W.heap[g]? = some (.cells #[.int .i64 a, .int .i64 b, .int .i64 c] 3 (0, 0))) : CI W (some ⟨g, 0, none⟩) [a, b, c] :=
  Kd.C_of_reads (d := 0) ⟨rfl, by show 3 ≤ _; decide, fun _ => ⟨_, rfl, fun j hj => by
    have hj : j < 3 := hj
    have h0 : (⟨g, 0, none⟩ : Addr).add j = ⟨g, j, none⟩ := by unfold Addr.add; split <;> simp_all
    rw [h0, World.cell?, h]
    match j, hj with
    | 0, _ => rfl
    | 1, _ => rfl
    | 2, _ => rfl⟩⟩
/-- The example's colours. -/
def exF : Nat → Int := moveG 3 1 1 0 2 1 0 0 2 1 (fillG 3 1 1 0 2 1 5 (fun _ => 0))
set_option maxHeartbeats 4000000 in
set_option maxRecDepth 100000 in
theorem works_c (w : World) : Calls Try.prog 8 #[] w fun e w' => e = .returned (.bool true) ∧ Below w.heap.size w w' := by
  have hF : fillE 3 1 1 0 2 1 5 = 0 := by decide +kernel
  have hM : moveE 3 1 1 0 2 1 0 0 2 1 = 0 := by decide +kernel
  have hL : lst (3 * 1 : Int).toNat exF = [5, 5, 5] := by decide +kernel
  have hA2 : atF 3 1 exF 2 0 = 5 := by decide +kernel
  have hA3 : atF 3 1 exF 3 0 = 0 := by decide +kernel
  have HF := Lib.hid hF
  have HM := Lib.hid hM
  have HL := Lib.hid hL
  have HA2 := Lib.hid hA2
  have HA3 := Lib.hid hA3
  clear hF hM hL hA2 hA3
  obtain ⟨K, hK⟩ : ∃ K : Nat, 40000000 ≤ K := ⟨_, Nat.le_refl _⟩
  go_enter Try.func8, Try.ntmps8
  go_wp2_with fail
  refine (New_s w.heap.size 3 1 _ (Nat.le_refl _) (by decide)).mono ?_
  rintro e w1 ⟨g, rb, rfl, hs, _, _, hb⟩
  have HS := Lib.hid hs
  have HB := Lib.hid hb
  clear hs hb
  go_wp2_with fail
  refine (Fill_s w.heap.size g rb 3 1 _ 1 0 2 1 5 _ HS.out).mono ?_
  rintro e w2 ⟨rfl, hs, hk⟩
  rw [HF.out]
  have HS2 := Lib.hid hs
  have HB2 := Lib.hid (HB.out.trans (hk.below HS.out.1.1.2.1 HB.out.size))
  clear hs hk
  go_wp2_with fail
  refine (Move_s w.heap.size g rb 3 1 _ 1 0 2 1 0 0 2 1 _ HS2.out).mono ?_
  rintro e w3 ⟨rfl, hs, hk⟩
  rw [HM.out]
  have HS3 : Hid (Scr w.heap.size g rb 3 1 exF w3) := Lib.hid hs
  have HB3 := Lib.hid (HB2.out.trans (hk.below HS2.out.1.1.2.1 HB2.out.size))
  clear hs hk
  go_wp2_with fail
  refine (Image_s w.heap.size g rb 3 1 _ _ HS3.out).mono ?_
  rintro e w4 ⟨v, rfl, hr, hb⟩
  rw [HL.out] at hr
  obtain ⟨A, c, rfl, hc, hci⟩ := hr.ci
  have HC := Lib.hid hci
  have HS4 := Lib.hid (HS3.out.below hb)
  have HB4 := Lib.hid (HB3.out.trans (Below.mono hb HB3.out.size))
  clear hr hb hci
  go_wp2_with fail
  have hb5 : Below w4.heap.size w4 ((w4.alloc (.cells #[.int .i64 3, .int .i64 1, .slice A 3 c] 33)).alloc (.cells #[.int .i64 5, .int .i64 5, .int .i64 5] 3)) := below_alloc (below_alloc (Below.refl _ _) _) _
  have hl5 := CI.lit3 ((w4.alloc (.cells #[.int .i64 3, .int .i64 1, .slice A 3 c] 33)).alloc (.cells #[.int .i64 5, .int .i64 5, .int .i64 5] 3)) (w4.heap.size + 1) 5 5 5 (by
    have := heap_alloc_new (w4.alloc (.cells #[.int .i64 3, .int .i64 1, .slice A 3 c] 33)) (.cells #[.int .i64 5, .int .i64 5, .int .i64 5] 3)
    rwa [World.size_alloc] at this)
  refine (X.miradorref12_SameImage.calls K 3 1 A c [5, 5, 5] 3 1 (some ⟨w4.heap.size + 1, 0, none⟩) 3 [5, 5, 5] true _ (Kd.C_below HC.out hb5) hc hl5 (by decide) (same_refl K hK 3 1 [5, 5, 5] (by decide))).mono ?_
  rintro e w6 ⟨rfl, hb6⟩
  have hb7 : Below w4.heap.size w4 w6 := hb5.trans (Below.mono hb6 (by simp; omega))
  have HS6 := Lib.hid (HS4.out.below hb7)
  have HB6 := Lib.hid (HB4.out.trans (Below.mono hb7 HB4.out.size))
  clear hb5 hl5 hb6 hb7
  go_wp2_with fail
  refine (At_c w.heap.size g rb 3 1 exF 2 0 _ HS6.out.1).mono ?_
  rintro e _ ⟨rfl, ⟨m, rfl⟩⟩
  rw [HA2.out]
  go_wp2_with fail
  refine (At_c w.heap.size g rb 3 1 exF 3 0 _ (HS6.out.1.drewN m)).mono ?_
  rintro e _ ⟨rfl, ⟨m2, rfl⟩⟩
  rw [HA3.out]
  go_wp2_with fail
  go_ret
  exact ⟨rfl, pw_below_drewN HB6.out _⟩
end Go.Proofs.Ytjcibgopebpkiaa.SC
