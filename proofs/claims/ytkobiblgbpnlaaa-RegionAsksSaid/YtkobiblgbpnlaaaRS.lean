/- A region that is moved: what the program answers. No condition. -/
import Derived.Test.YtkobiblgbpnlaaaRV
import Derived.Test.YtkobiblgbpnlaaaXx35
namespace Go.Proofs.Ytkobiblgbpnlaaa.RT
open Go.Proofs.Ytkobiblgbpnlaaa Go.Proofs.Ytkobiblgbpnlaaa.X
set_option linter.unusedVariables false
set_option linter.unusedSimpArgs false
theorem reg_eqS {l m : List SR} {S T : Int → Int → Bool} (h : RG.IsReg (l.map tr) S) (k : RG.IsReg (m.map tr) T) (e : ∀ x y, S x y = T x y) : l = m := map_inj (h.unique k e)
def shS (dx dy : Int) (r : SR) : SR := ⟨r.f0 + dx, r.f1 + dy, r.f2, r.f3⟩
theorem sh_tr (dx dy : Int) (l : List SR) : (l.map (shS dx dy)).map tr = (l.map tr).map (RG.shiftR dx dy) := by
  rw [List.map_map, List.map_map]; rfl
theorem rd_mid (pre rest : List SR) (r : SR) : rd_T26 (pre ++ r :: rest) (pre.length : Int) = r := by
  rw [rd26_at _ pre.length (by simp)]
  simp
theorem set_mid (pre rest : List SR) (r v : SR) : (pre ++ r :: rest).set (pre.length : Int).toNat v = pre ++ v :: rest := by
  rw [Int.toNat_natCast, List.set_append_right _ _ (Nat.le_refl _), Nat.sub_self]; rfl
theorem shift_l0 (dx dy : Int) (hx : -2097152 ≤ dx ∧ dx ≤ 2097152) (hy : -2097152 ≤ dy ∧ dy ≤ 2097152) : ∀ (rest pre : List SR) (k : Nat), rest.length < k → (∀ r ∈ rest, cntS r = true) → pre.length + rest.length ≤ 1000000000 →
    region_Shift.l0 k dx dy (pre ++ rest) ((pre ++ rest).length : Int) (pre.length : Int) = (region_Make.f (pre ++ rest.map (shS dx dy))).bind fun t => some t := by
  intro rest
  induction rest with
  | nil =>
    intro pre k hk _ _
    obtain ⟨k, rfl⟩ : ∃ q, k = q + 1 := ⟨k - 1, by omega⟩
    rw [region_Shift.l0, if_neg (by simp)]
    rfl
  | cons r rest ih =>
    intro pre k hk hc hl
    obtain ⟨k, rfl⟩ : ∃ q, k = q + 1 := ⟨k - 1, by omega⟩
    have hcx := (cntS_iff r).1 (hc r List.mem_cons_self)
    have h1 := ih (pre ++ [shS dx dy r]) k (by simp at hk; omega) (fun q hq => hc q (List.mem_cons_of_mem _ hq)) (by simp at hl ⊢; omega)
    have hlen : ((pre ++ r :: rest).length : Int) = (((pre ++ [shS dx dy r]) ++ rest).length : Int) := by simp
    have hp : (((pre ++ [shS dx dy r]).length : Nat) : Int) = ((pre.length + 1 : Nat) : Int) := by simp
    rw [region_Shift.l0, if_pos (by simp; omega), if_pos (by omega), if_pos (by simp; omega), rd_mid, Option.bind_some]
    rw [set_mid, rd_mid, set_mid, wrap_next pre.length (by simp at hl; omega), wrap_id (x := r.f0 + dx) (by omega) (by omega), wrap_id (x := r.f1 + dy) (by omega) (by omega), hlen, ← hp]
    have e : pre ++ (⟨r.f0 + dx, r.f1 + dy, r.f2, r.f3⟩ : SR) :: rest = (pre ++ [shS dx dy r]) ++ rest := by simp [shS]
    rw [e, h1, List.map_cons, List.append_assoc]
    rfl
theorem small_f (n : Int) (h : -2097152 ≤ n ∧ n ≤ 2097152) : region_small.f n = some true := by
  unfold region_small.f; rw [if_pos h.1, decide_eq_true h.2]
theorem shift_f (k : Nat) (hk : 100000001 < k) (a : List SR) (ha : a.length ≤ 5000) (dx dy : Int) (hx : -2097152 ≤ dx ∧ dx ≤ 2097152) (hy : -2097152 ≤ dy ∧ dy ≤ 2097152) :
    region_Shift.f (k + 1) a dx dy = (region_Make.f ((combS keepMake a []).map (shS dx dy))).bind fun t => some t := by
  have hr := reg_make a
  have hlen := comb_len keepMake a [] 5000 (by simpa using ha)
  have hc : ∀ r ∈ combS keepMake a [], cntS r = true := fun r h => by rw [← cnt_tr]; exact hr.counts _ (List.mem_map_of_mem h)
  unfold region_Shift.f
  rw [small_f dx hx, Option.bind_some, if_pos rfl, small_f dy hy, Option.bind_some, region_Shift.j0, if_neg (by decide), make_f a ha, Option.bind_some]
  exact shift_l0 dx dy hx hy (combS keepMake a []) [] k (by omega) hc (by simp; omega)
/-- A region that stays within reach when it is moved: it is a region again, and made again it is the same. -/
theorem shift_reg (a : List SR) (dx dy : Int) (hc : ∀ r ∈ combS keepMake a [], cntS (shS dx dy r) = true) :
    RG.IsReg (((combS keepMake a []).map (shS dx dy)).map tr) (fun x y => RG.has (a.map tr) (x - dx) (y - dy)) := by
  rw [sh_tr]
  refine (reg_make a).shift dx dy (fun r hr => ?_)
  obtain ⟨q, hq, rfl⟩ := List.mem_map.1 hr
  exact (cnt_tr (shS dx dy q)).trans (hc q hq)
/-- Made again, a region is the same. -/
theorem make_reg {m : List SR} {S : Int → Int → Bool} (h : RG.IsReg (m.map tr) S) : combS keepMake m [] = m := reg_eqS (reg_make m) h (fun x y => h.has x y)
end Go.Proofs.Ytkobiblgbpnlaaa.RT
