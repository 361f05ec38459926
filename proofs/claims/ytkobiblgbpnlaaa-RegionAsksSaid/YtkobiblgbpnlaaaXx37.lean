/- What each Go function that these laws use answers: as a Lean function, with the proof that the machine's call comes to it. Written by a program of this session (xprint.py). -/
import Derived.Test.YtkobiblgbpnlaaaXx0
namespace Go.Proofs.Ytkobiblgbpnlaaa.X
open Go.RowKit Go.Proofs.YtkobiblgbpnlaaaW.PrintWords Go.Proofs.YtkobiblgbpnlaaaW.PrintLast Go.Proofs.YtkobiblgbpnlaaaW.PrintMore
attribute [local go_sem] max2_int min2_int max_two min_two max_three min_three max_four min_four   -- for this text's walks alone
set_option linter.unusedVariables false
set_option linter.unusedSimpArgs false

/-! ### slices_Min_int_int: function 37 -/
def slices_Min_int_int.f (l0 : List Int) : Option Int := if 0 < l0.length then some (Lib.minOf l0) else none
theorem slices_Min_int_int.calls (A0 : Option Addr) (c0 : Nat) (l0 : List Int) (r : Int) (w : World) (hr0 : Kd.C (Kd.int .i64) w A0 l0.length l0) (hc0 : l0.length ≤ c0) (h : slices_Min_int_int.f l0 = some r) :
    Calls Try.prog 37 #[.slice A0 l0.length c0] w fun e w' => e = .returned (.int .i64 r) ∧ Below w.heap.size w w' := by
  unfold slices_Min_int_int.f at h
  split at h
  · cases h
    rename_i hp
    obtain ⟨_, hmx, hc⟩ := hr0
    obtain ⟨ad, rfl, hcell⟩ := hc hp
    have hcl : ∀ j, j < l0.length → w.cell? (ad.add j) = some (.int .i64 (l0.getD j 0)) := fun j hj => by
      obtain ⟨c, _, hk, hu⟩ := hcell j l0[j] (List.getElem?_eq_getElem hj)
      have hk : c = [.int .i64 l0[j]] := hk
      subst hk
      have h2 := hu 0 _ rfl
      rw [show j * (Kd.int .i64).sz + 0 = j from by show j * 1 + 0 = j; omega] at h2
      rw [h2, List.getD_eq_getElem?_getD, List.getElem?_eq_getElem hj]; rfl
    obtain ⟨b, off, sp⟩ := ad
    have hsp : sp = none := by
      have h0 := hcl 0 hp
      rw [show (⟨b, off, sp⟩ : Addr).add 0 = ⟨b, off, sp⟩ from by simp [Addr.add]] at h0
      unfold World.cell? at h0
      cases sp with
      | none => rfl
      | some q => cases hb : w.heap[b]? with
        | none => rw [show (⟨b, off, some q⟩ : Addr).block = b from rfl, hb] at h0; cases h0
        | some o => cases o <;> simp [hb] at h0
    subst hsp
    have h3 := Try.slices_Min_int b off l0.length c0 l0 w hp (Nat.le_refl _) hmx (fun j hj => by
      have := hcl j hj
      rwa [show (⟨b, off, none⟩ : Addr).add j = ⟨b, off + j, none⟩ from by unfold Addr.add; split <;> simp_all] at this)
    rw [List.take_length] at h3
    refine h3.mono ?_
    rintro e w' ⟨rfl, rfl⟩
    exact ⟨rfl, Below.refl _ _⟩
  · cases h

/-! ### slices_Max_int_int: function 38 -/
def slices_Max_int_int.f (l0 : List Int) : Option Int := if 0 < l0.length then some (Lib.maxOf l0) else none
theorem slices_Max_int_int.calls (A0 : Option Addr) (c0 : Nat) (l0 : List Int) (r : Int) (w : World) (hr0 : Kd.C (Kd.int .i64) w A0 l0.length l0) (hc0 : l0.length ≤ c0) (h : slices_Max_int_int.f l0 = some r) :
    Calls Try.prog 38 #[.slice A0 l0.length c0] w fun e w' => e = .returned (.int .i64 r) ∧ Below w.heap.size w w' := by
  unfold slices_Max_int_int.f at h
  split at h
  · cases h
    rename_i hp
    obtain ⟨_, hmx, hc⟩ := hr0
    obtain ⟨ad, rfl, hcell⟩ := hc hp
    have hcl : ∀ j, j < l0.length → w.cell? (ad.add j) = some (.int .i64 (l0.getD j 0)) := fun j hj => by
      obtain ⟨c, _, hk, hu⟩ := hcell j l0[j] (List.getElem?_eq_getElem hj)
      have hk : c = [.int .i64 l0[j]] := hk
      subst hk
      have h2 := hu 0 _ rfl
      rw [show j * (Kd.int .i64).sz + 0 = j from by show j * 1 + 0 = j; omega] at h2
      rw [h2, List.getD_eq_getElem?_getD, List.getElem?_eq_getElem hj]; rfl
    obtain ⟨b, off, sp⟩ := ad
    have hsp : sp = none := by
      have h0 := hcl 0 hp
      rw [show (⟨b, off, sp⟩ : Addr).add 0 = ⟨b, off, sp⟩ from by simp [Addr.add]] at h0
      unfold World.cell? at h0
      cases sp with
      | none => rfl
      | some q => cases hb : w.heap[b]? with
        | none => rw [show (⟨b, off, some q⟩ : Addr).block = b from rfl, hb] at h0; cases h0
        | some o => cases o <;> simp [hb] at h0
    subst hsp
    have h3 := Try.slices_Max_int b off l0.length c0 l0 w hp (Nat.le_refl _) hmx (fun j hj => by
      have := hcl j hj
      rwa [show (⟨b, off, none⟩ : Addr).add j = ⟨b, off + j, none⟩ from by unfold Addr.add; split <;> simp_all] at this)
    rw [List.take_length] at h3
    refine h3.mono ?_
    rintro e w' ⟨rfl, rfl⟩
    exact ⟨rfl, Below.refl _ _⟩
  · cases h

end Go.Proofs.Ytkobiblgbpnlaaa.X
