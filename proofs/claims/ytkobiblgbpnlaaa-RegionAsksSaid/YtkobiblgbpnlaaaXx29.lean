/- What each Go function that these laws use answers: as a Lean function, with the proof that the machine's call comes to it. Written by a program of this session (xprint.py). -/
import Derived.Test.YtkobiblgbpnlaaaXx0
import Derived.Test.YtkobiblgbpnlaaaXx25
import Derived.Test.YtkobiblgbpnlaaaXx27
import Derived.Test.YtkobiblgbpnlaaaXx28
namespace Go.Proofs.Ytkobiblgbpnlaaa.X
open Go.RowKit Go.Proofs.YtkobiblgbpnlaaaW.PrintWords Go.Proofs.YtkobiblgbpnlaaaW.PrintLast Go.Proofs.YtkobiblgbpnlaaaW.PrintMore
attribute [local go_sem] max2_int min2_int max_two min_two max_three min_three max_four min_four   -- for this text's walks alone
set_option linter.unusedVariables false
set_option linter.unusedSimpArgs false

/-! ### miradorref15_Combine: function 14 -/
mutual
def miradorref15_Combine.l0 : Nat → Int → List (S26) → List (S26) → List Int → List Int → List (S26) → List (S26) → Int → Option ((List (S26)))
 | 0, _, _, _, _, _, _, _, _ => none
 | k + 1, x0, x1, x2, x8, x9, x10, x11, x12 => if (wrap64 (x12 + 1)) < (x9.length : Int) then (miradorref15_Combine.l1 k x0 x1 x2 x8 x9 x10 x11 x12 ([] : List (S26)) 0) else (if x10.length + x11.length < 4398046511104 then (some (x10 ++ x11)) else (none))
def miradorref15_Combine.l1 : Nat → Int → List (S26) → List (S26) → List Int → List Int → List (S26) → List (S26) → Int → List (S26) → Int → Option ((List (S26)))
 | 0, _, _, _, _, _, _, _, _, _, _ => none
 | k + 1, x0, x1, x2, x8, x9, x10, x11, x12, x13, x14 => if (wrap64 (x14 + 1)) < (x8.length : Int) then (if 0 ≤ x14 then (if x14 < (x8.length : Int) then (if 0 ≤ x12 then (if x12 < (x9.length : Int) then ((miradorref15_in.f k x0 x1 x2 (rd x8 x14) (rd x9 x12)).bind fun t391 => (if t391 = true then (if (x13.length : Int) > 0 then (if 0 ≤ (wrap64 ((x13.length : Int) - 1)) then (if (wrap64 ((x13.length : Int) - 1)) < (x13.length : Int) then (if (wrap64 (((rd_T26 x13 (wrap64 ((x13.length : Int) - 1))).f0) + ((rd_T26 x13 (wrap64 ((x13.length : Int) - 1))).f2))) = (rd x8 x14) then (if 0 ≤ (wrap64 (x14 + 1)) then (miradorref15_Combine.l1 k x0 x1 x2 x8 x9 x10 x11 x12 (x13.set ((wrap64 ((x13.length : Int) - 1)) : Int).toNat (⟨(rd_T26 x13 (wrap64 ((x13.length : Int) - 1))).f0, (rd_T26 x13 (wrap64 ((x13.length : Int) - 1))).f1, wrap64 ((rd x8 (wrap64 (x14 + 1))) - ((rd_T26 x13 (wrap64 ((x13.length : Int) - 1))).f0)), (rd_T26 x13 (wrap64 ((x13.length : Int) - 1))).f3⟩ : S26)) (wrap64 (x14 + 1))) else (none)) else (if 0 ≤ (wrap64 (x14 + 1)) then (if 0 ≤ (wrap64 (x12 + 1)) then (if (wrap64 (x12 + 1)) < (x9.length : Int) then (if x13.length < 4398046511104 then (miradorref15_Combine.l1 k x0 x1 x2 x8 x9 x10 x11 x12 (x13 ++ [(⟨rd x8 x14, rd x9 x12, wrap64 ((rd x8 (wrap64 (x14 + 1))) - (rd x8 x14)), wrap64 ((rd x9 (wrap64 (x12 + 1))) - (rd x9 x12))⟩ : S26)]) (wrap64 (x14 + 1))) else (none)) else (none)) else (none)) else (none))) else (none)) else (none)) else (if 0 ≤ (wrap64 (x14 + 1)) then (if 0 ≤ (wrap64 (x12 + 1)) then (if (wrap64 (x12 + 1)) < (x9.length : Int) then (if x13.length < 4398046511104 then (miradorref15_Combine.l1 k x0 x1 x2 x8 x9 x10 x11 x12 (x13 ++ [(⟨rd x8 x14, rd x9 x12, wrap64 ((rd x8 (wrap64 (x14 + 1))) - (rd x8 x14)), wrap64 ((rd x9 (wrap64 (x12 + 1))) - (rd x9 x12))⟩ : S26)]) (wrap64 (x14 + 1))) else (none)) else (none)) else (none)) else (none))) else (miradorref15_Combine.l1 k x0 x1 x2 x8 x9 x10 x11 x12 x13 (wrap64 (x14 + 1))))) else (none)) else (none)) else (none)) else (none)) else (if (x11.length : Int) > 0 then ((miradorref15_same.f k x11 x13).bind fun t416 => (miradorref15_Combine.j2 k x0 x1 x2 x8 x9 x10 x11 x12 x13 t416)) else (miradorref15_Combine.j2 k x0 x1 x2 x8 x9 x10 x11 x12 x13 false))
def miradorref15_Combine.j2 : Nat → Int → List (S26) → List (S26) → List Int → List Int → List (S26) → List (S26) → Int → List (S26) → Bool → Option ((List (S26)))
 | 0, _, _, _, _, _, _, _, _, _, _ => none
 | k + 1, x0, x1, x2, x8, x9, x10, x11, x12, x13, x135 => if x135 = true then (miradorref15_Combine.l2 k x0 x1 x2 x8 x9 x10 x11 x12 0) else (if x10.length + x11.length < 4398046511104 then (miradorref15_Combine.l0 k x0 x1 x2 x8 x9 (x10 ++ x11) x13 (wrap64 (x12 + 1))) else (none))
def miradorref15_Combine.l2 : Nat → Int → List (S26) → List (S26) → List Int → List Int → List (S26) → List (S26) → Int → Int → Option ((List (S26)))
 | 0, _, _, _, _, _, _, _, _, _ => none
 | k + 1, x0, x1, x2, x8, x9, x10, x11, x12, x16 => if x16 < (x11.length : Int) then (if 0 ≤ (wrap64 (x12 + 1)) then (if (wrap64 (x12 + 1)) < (x9.length : Int) then (if 0 ≤ x16 then (miradorref15_Combine.l2 k x0 x1 x2 x8 x9 x10 (x11.set (x16 : Int).toNat (⟨(rd_T26 x11 x16).f0, (rd_T26 x11 x16).f1, (rd_T26 x11 x16).f2, wrap64 ((rd x9 (wrap64 (x12 + 1))) - ((rd_T26 x11 x16).f1))⟩ : S26)) x12 (wrap64 (x16 + 1))) else (none)) else (none)) else (none)) else (miradorref15_Combine.l0 k x0 x1 x2 x8 x9 x10 x11 (wrap64 (x12 + 1)))
end
def miradorref15_Combine.f (k : Nat) (a0 : Int) (l1 : List (S26)) (l2 : List (S26)) : Option ((List (S26))) := if ([] : List (S26)).length + l1.length < 4398046511104 then ((some (([] : List (S26)) ++ l1 : List (S26))).bind fun y374 => (if y374.length + l2.length < 4398046511104 then ((miradorref15_Borders.f k (y374 ++ l2)).bind fun bt380 => (miradorref15_Combine.l0 k a0 l1 l2 bt380.1 bt380.2 ([] : List (S26)) ([] : List (S26)) 0)) else (none))) else (none)
theorem miradorref15_Combine.mono_l : ∀ k, (∀ y0 y1 y2 y3 y4 y5 y6 y7, LeO (miradorref15_Combine.l0 k y0 y1 y2 y3 y4 y5 y6 y7) (miradorref15_Combine.l0 (k + 1) y0 y1 y2 y3 y4 y5 y6 y7)) ∧ (∀ y0 y1 y2 y3 y4 y5 y6 y7 y8 y9, LeO (miradorref15_Combine.l1 k y0 y1 y2 y3 y4 y5 y6 y7 y8 y9) (miradorref15_Combine.l1 (k + 1) y0 y1 y2 y3 y4 y5 y6 y7 y8 y9)) ∧ (∀ y0 y1 y2 y3 y4 y5 y6 y7 y8 y9, LeO (miradorref15_Combine.j2 k y0 y1 y2 y3 y4 y5 y6 y7 y8 y9) (miradorref15_Combine.j2 (k + 1) y0 y1 y2 y3 y4 y5 y6 y7 y8 y9)) ∧ (∀ y0 y1 y2 y3 y4 y5 y6 y7 y8, LeO (miradorref15_Combine.l2 k y0 y1 y2 y3 y4 y5 y6 y7 y8) (miradorref15_Combine.l2 (k + 1) y0 y1 y2 y3 y4 y5 y6 y7 y8))
 | 0 => ⟨fun _ _ _ _ _ _ _ _ r h => by simp [miradorref15_Combine.l0] at h, fun _ _ _ _ _ _ _ _ _ _ r h => by simp [miradorref15_Combine.l1] at h, fun _ _ _ _ _ _ _ _ _ _ r h => by simp [miradorref15_Combine.j2] at h, fun _ _ _ _ _ _ _ _ _ r h => by simp [miradorref15_Combine.l2] at h⟩
 | k + 1 => by
  obtain ⟨ih0, ih1, ih2, ih3⟩ := miradorref15_Combine.mono_l k
  refine ⟨?_, ?_, ?_, ?_⟩
  ·intro y0 y1 y2 y3 y4 y5 y6 y7
   unfold miradorref15_Combine.l0
   repeat' first
   | (with_reducible exact ih0 _ _ _ _ _ _ _ _)
   | (with_reducible exact ih1 _ _ _ _ _ _ _ _ _ _)
   | (with_reducible exact ih2 _ _ _ _ _ _ _ _ _ _)
   | (with_reducible exact ih3 _ _ _ _ _ _ _ _ _)
   | (with_reducible exact miradorref15_Borders.mono _ _)
   | (with_reducible exact miradorref15_in.mono _ _ _ _ _ _)
   | (with_reducible exact miradorref15_same.mono _ _ _)
   | (with_reducible exact LeO.refl _)
   | (with_reducible exact LeO.none _)
   | (with_reducible refine LeO.ite ?_ ?_)
   | (with_reducible refine LeO.bind ?_ (fun _ => ?_))
   | exact ih0 _ _ _ _ _ _ _ _
   | exact ih1 _ _ _ _ _ _ _ _ _ _
   | exact ih2 _ _ _ _ _ _ _ _ _ _
   | exact ih3 _ _ _ _ _ _ _ _ _
   | exact miradorref15_Borders.mono _ _
   | exact miradorref15_in.mono _ _ _ _ _ _
   | exact miradorref15_same.mono _ _ _
   | exact LeO.none _
   | refine LeO.ite ?_ ?_
   | refine LeO.bind ?_ (fun _ => ?_)
  ·intro y0 y1 y2 y3 y4 y5 y6 y7 y8 y9
   unfold miradorref15_Combine.l1
   repeat' first
   | (with_reducible exact ih0 _ _ _ _ _ _ _ _)
   | (with_reducible exact ih1 _ _ _ _ _ _ _ _ _ _)
   | (with_reducible exact ih2 _ _ _ _ _ _ _ _ _ _)
   | (with_reducible exact ih3 _ _ _ _ _ _ _ _ _)
   | (with_reducible exact miradorref15_Borders.mono _ _)
   | (with_reducible exact miradorref15_in.mono _ _ _ _ _ _)
   | (with_reducible exact miradorref15_same.mono _ _ _)
   | (with_reducible exact LeO.refl _)
   | (with_reducible exact LeO.none _)
   | (with_reducible refine LeO.ite ?_ ?_)
   | (with_reducible refine LeO.bind ?_ (fun _ => ?_))
   | exact ih0 _ _ _ _ _ _ _ _
   | exact ih1 _ _ _ _ _ _ _ _ _ _
   | exact ih2 _ _ _ _ _ _ _ _ _ _
   | exact ih3 _ _ _ _ _ _ _ _ _
   | exact miradorref15_Borders.mono _ _
   | exact miradorref15_in.mono _ _ _ _ _ _
   | exact miradorref15_same.mono _ _ _
   | exact LeO.none _
   | refine LeO.ite ?_ ?_
   | refine LeO.bind ?_ (fun _ => ?_)
  ·intro y0 y1 y2 y3 y4 y5 y6 y7 y8 y9
   unfold miradorref15_Combine.j2
   repeat' first
   | (with_reducible exact ih0 _ _ _ _ _ _ _ _)
   | (with_reducible exact ih1 _ _ _ _ _ _ _ _ _ _)
   | (with_reducible exact ih2 _ _ _ _ _ _ _ _ _ _)
   | (with_reducible exact ih3 _ _ _ _ _ _ _ _ _)
   | (with_reducible exact miradorref15_Borders.mono _ _)
   | (with_reducible exact miradorref15_in.mono _ _ _ _ _ _)
   | (with_reducible exact miradorref15_same.mono _ _ _)
   | (with_reducible exact LeO.refl _)
   | (with_reducible exact LeO.none _)
   | (with_reducible refine LeO.ite ?_ ?_)
   | (with_reducible refine LeO.bind ?_ (fun _ => ?_))
   | exact ih0 _ _ _ _ _ _ _ _
   | exact ih1 _ _ _ _ _ _ _ _ _ _
   | exact ih2 _ _ _ _ _ _ _ _ _ _
   | exact ih3 _ _ _ _ _ _ _ _ _
   | exact miradorref15_Borders.mono _ _
   | exact miradorref15_in.mono _ _ _ _ _ _
   | exact miradorref15_same.mono _ _ _
   | exact LeO.none _
   | refine LeO.ite ?_ ?_
   | refine LeO.bind ?_ (fun _ => ?_)
  ·intro y0 y1 y2 y3 y4 y5 y6 y7 y8
   unfold miradorref15_Combine.l2
   repeat' first
   | (with_reducible exact ih0 _ _ _ _ _ _ _ _)
   | (with_reducible exact ih1 _ _ _ _ _ _ _ _ _ _)
   | (with_reducible exact ih2 _ _ _ _ _ _ _ _ _ _)
   | (with_reducible exact ih3 _ _ _ _ _ _ _ _ _)
   | (with_reducible exact miradorref15_Borders.mono _ _)
   | (with_reducible exact miradorref15_in.mono _ _ _ _ _ _)
   | (with_reducible exact miradorref15_same.mono _ _ _)
   | (with_reducible exact LeO.refl _)
   | (with_reducible exact LeO.none _)
   | (with_reducible refine LeO.ite ?_ ?_)
   | (with_reducible refine LeO.bind ?_ (fun _ => ?_))
   | exact ih0 _ _ _ _ _ _ _ _
   | exact ih1 _ _ _ _ _ _ _ _ _ _
   | exact ih2 _ _ _ _ _ _ _ _ _ _
   | exact ih3 _ _ _ _ _ _ _ _ _
   | exact miradorref15_Borders.mono _ _
   | exact miradorref15_in.mono _ _ _ _ _ _
   | exact miradorref15_same.mono _ _ _
   | exact LeO.none _
   | refine LeO.ite ?_ ?_
   | refine LeO.bind ?_ (fun _ => ?_)
theorem miradorref15_Combine.mono : ∀ a0 a1 a2 k, LeO (miradorref15_Combine.f k a0 a1 a2) (miradorref15_Combine.f (k + 1) a0 a1 a2) := by
 intro a0 a1 a2 k
 obtain ⟨ih0, ih1, ih2, ih3⟩ := miradorref15_Combine.mono_l k
 unfold miradorref15_Combine.f
 repeat' first
   | (with_reducible exact ih0 _ _ _ _ _ _ _ _)
   | (with_reducible exact ih1 _ _ _ _ _ _ _ _ _ _)
   | (with_reducible exact ih2 _ _ _ _ _ _ _ _ _ _)
   | (with_reducible exact ih3 _ _ _ _ _ _ _ _ _)
   | (with_reducible exact miradorref15_Borders.mono _ _)
   | (with_reducible exact miradorref15_in.mono _ _ _ _ _ _)
   | (with_reducible exact miradorref15_same.mono _ _ _)
   | (with_reducible exact LeO.refl _)
   | (with_reducible exact LeO.none _)
   | (with_reducible refine LeO.ite ?_ ?_)
   | (with_reducible refine LeO.bind ?_ (fun _ => ?_))
   | exact ih0 _ _ _ _ _ _ _ _
   | exact ih1 _ _ _ _ _ _ _ _ _ _
   | exact ih2 _ _ _ _ _ _ _ _ _ _
   | exact ih3 _ _ _ _ _ _ _ _ _
   | exact miradorref15_Borders.mono _ _
   | exact miradorref15_in.mono _ _ _ _ _ _
   | exact miradorref15_same.mono _ _ _
   | exact LeO.none _
   | refine LeO.ite ?_ ?_
   | refine LeO.bind ?_ (fun _ => ?_)
def miradorref15_Combine.T14 : Bool × List (List Nat × List Nat) := (true, [([], []), ([], []), ([], []), ([], []), ([], []), ([3, 4], [3, 4]), ([5], [5]), ([], []), ([], []), ([7, 8], [7, 8]), ([9], [9]), ([0, 1, 2, 6, 10], [0, 1, 2, 6, 10]), ([11], [11])])
def miradorref15_Combine.B14 : List Nat := [0, 0, 0, 0, 0, 24, 56, 0, 0, 384, 896, 2047, 4095]
theorem miradorref15_Combine.tab14 : rtab .any (opsOf Try.f14 14) = miradorref15_Combine.T14 := by kernel_rfl
theorem miradorref15_Combine.bits14 : waitsOk miradorref15_Combine.T14.2 miradorref15_Combine.B14 = true := by kernel_rfl
def miradorref15_Combine.T16 : Bool × List (List Nat × List Nat) := (true, [([], []), ([0], [0]), ([1], [1]), ([2], [2]), ([2], [2]), ([4, 2], [2, 4]), ([3, 5, 2], [2, 3, 5]), ([6, 2], [2, 6]), ([7, 2], [2, 7]), ([2], [2]), ([2], [2]), ([10, 2], [2, 10]), ([9, 11, 2], [2, 9, 11]), ([12, 2], [2, 12]), ([13, 2], [2, 13]), ([8, 14, 2], [2, 8, 14]), ([2], [2]), ([2], [2]), ([16, 17, 2], [2, 16, 17]), ([18, 2], [2, 18]), ([15, 19, 2], [2, 15, 19]), ([2, 20], [2, 20])])
def miradorref15_Combine.B16 : List Nat := [0, 1, 3, 7, 7, 23, 63, 127, 255, 7, 7, 1031, 3591, 7687, 15879, 32767, 7, 7, 196615, 458759, 1048575, 2097151]
theorem miradorref15_Combine.tab16 : rtab .any (opsOf Try.f14 16) = miradorref15_Combine.T16 := by kernel_rfl
theorem miradorref15_Combine.bits16 : waitsOk miradorref15_Combine.T16.2 miradorref15_Combine.B16 = true := by kernel_rfl
def miradorref15_Combine.T17 : Bool × List (List Nat × List Nat) := (true, [([], []), ([], []), ([1], [1]), ([], []), ([], []), ([4], [4]), ([3, 5], [3, 5]), ([6], [6]), ([], []), ([], []), ([9], [9]), ([8, 10], [8, 10]), ([11], [11]), ([12], [12]), ([7, 13], [7, 13]), ([0, 2, 0, 1, 2, 3, 4, 5, 6, 7, 8, 9, 10, 11, 12, 13, 14], [0, 2]), ([15, 0, 1, 2, 3, 4, 5, 6, 7, 8, 9, 10, 11, 12, 13, 14], [15]), ([16, 14, 0, 1, 2, 3, 4, 5, 6, 7, 8, 9, 10, 11, 12, 13, 14], [14, 16])])
def miradorref15_Combine.B17 : List Nat := [0, 0, 2, 0, 0, 16, 56, 120, 0, 0, 512, 1792, 3840, 7936, 16376, 32767, 65535, 131071]
theorem miradorref15_Combine.tab17 : rtab .any (opsOf Try.f14 17) = miradorref15_Combine.T17 := by kernel_rfl
theorem miradorref15_Combine.bits17 : waitsOk miradorref15_Combine.T17.2 miradorref15_Combine.B17 = true := by kernel_rfl
def miradorref15_Combine.T18 : Bool × List (List Nat × List Nat) := (true, [([], []), ([], []), ([], []), ([1, 2], [1, 2]), ([3], [3]), ([], []), ([], []), ([5, 6], [5, 6]), ([7], [7]), ([], []), ([], []), ([10], [10]), ([9, 11], [9, 11]), ([12], [12]), ([], []), ([], []), ([14, 15], [14, 15]), ([16], [16]), ([13, 17], [13, 17]), ([], []), ([], []), ([20], [20]), ([19, 21], [19, 21]), ([22], [22]), ([], []), ([], []), ([24, 25], [24, 25]), ([26], [26]), ([23, 27], [23, 27]), ([4, 8, 18, 28], [4, 8, 18, 28]), ([29], [29]), ([0, 30], [0, 30]), ([31, 31, 0, 1, 2, 3, 4, 5, 6, 7, 8, 9, 10, 11, 12, 13, 14, 15, 16, 17, 18, 19, 20, 21, 22, 23, 24, 25, 26, 27, 28, 29, 30, 31], [0, 31])])
def miradorref15_Combine.B18 : List Nat := [0, 0, 0, 6, 14, 0, 0, 96, 224, 0, 0, 1024, 3584, 7680, 0, 0, 49152, 114688, 261632, 0, 0, 1048576, 3670016, 7864320, 0, 0, 50331648, 117440512, 267911168, 536870910, 1073741822, 2147483647, 4294967295]
theorem miradorref15_Combine.tab18 : rtab .any (opsOf Try.f14 18) = miradorref15_Combine.T18 := by kernel_rfl
theorem miradorref15_Combine.bits18 : waitsOk miradorref15_Combine.T18.2 miradorref15_Combine.B18 = true := by kernel_rfl
def miradorref15_Combine.T23 : Bool × List (List Nat × List Nat) := (true, [([], []), ([], []), ([], []), ([], []), ([3], [3]), ([2, 4], [2, 4]), ([5], [5]), ([], []), ([], []), ([7, 8], [7, 8]), ([9], [9]), ([10], [10]), ([6, 11], [6, 11]), ([0, 1, 0, 1, 2, 3, 4, 5, 6, 7, 8, 9, 10, 11, 12], [0, 1]), ([13, 0, 1, 2, 3, 4, 5, 6, 7, 8, 9, 10, 11, 12], [13]), ([14, 12, 0, 1, 2, 3, 4, 5, 6, 7, 8, 9, 10, 11, 12], [12, 14])])
def miradorref15_Combine.B23 : List Nat := [0, 0, 0, 0, 8, 28, 60, 0, 0, 384, 896, 1920, 4092, 8191, 16383, 32767]
theorem miradorref15_Combine.tab23 : rtab .any (opsOf Try.f14 23) = miradorref15_Combine.T23 := by kernel_rfl
theorem miradorref15_Combine.bits23 : waitsOk miradorref15_Combine.T23.2 miradorref15_Combine.B23 = true := by kernel_rfl
set_option maxHeartbeats 8000000 in
set_option maxRecDepth 100000 in
theorem miradorref15_Combine.calls (k : Nat) (a0 : Int) (A1 : Option Addr) (c1 : Nat) (l1 : List (S26)) (A2 : Option Addr) (c2 : Nat) (l2 : List (S26)) (r : List (S26)) (w : World) (hr1 : Kd.C k26 w A1 l1.length l1) (hc1 : l1.length ≤ c1) (hr2 : Kd.C k26 w A2 l2.length l2) (hc2 : l2.length ≤ c2) (h : miradorref15_Combine.f k a0 l1 l2 = some r) :
  Calls Try.prog 14 #[.int .i64 a0, .slice A1 l1.length c1, .slice A2 l2.length c2] w fun e w' => ∃ v0_ : Value, e = .returned (v0_) ∧ Kd.R k26 26 w' w.heap.size (fun _ => True) v0_ r ∧ Below w.heap.size w w' := by
 have hu26 := Try.underlying26
 have HR1 := Aside0.mk hr1
 have HC1 := Aside0.mk hc1
 clear hr1 hc1
 have HR2 := Aside0.mk hr2
 have HC2 := Aside0.mk hc2
 clear hr2 hc2
 have HB := Aside0.mk (Below.refl w.heap.size w)
 have H : (if ([] : List (S26)).length + l1.length < 4398046511104 then ((some (([] : List (S26)) ++ l1 : List (S26))).bind fun y374 => (if y374.length + l2.length < 4398046511104 then ((miradorref15_Borders.f k (y374 ++ l2)).bind fun bt380 => (miradorref15_Combine.l0 k a0 l1 l2 bt380.1 bt380.2 ([] : List (S26)) ([] : List (S26)) 0)) else (none))) else (none)) = some r := h
 clear h
 by_cases c4 : ([] : List (S26)).length + l1.length < 4398046511104
 ·rw [if_pos c4] at H
  have LMc4 := Aside0.mk c4
  clear c4
  obtain ⟨y374, hy374⟩ : ∃ y_ : List (S26), y_ = (([] : List (S26)) ++ l1) := ⟨_, rfl⟩
  replace H : (if y374.length + l2.length < 4398046511104 then ((miradorref15_Borders.f k (y374 ++ l2)).bind fun bt380 => (miradorref15_Combine.l0 k a0 l1 l2 bt380.1 bt380.2 ([] : List (S26)) ([] : List (S26)) 0)) else (none)) = some r := by first | (rw [hy374]; with_reducible exact H) | (have H2_ := (Option.bind_some _ _).symm.trans H; rw [hy374]; with_reducible exact H2_) | (have H2_ := (Option.bind_some _ _).symm.trans H; with_reducible exact H2_) | with_reducible exact H | (rw [hy374]; exact H) | exact H
  have Ny374 := Aside0.mk hy374
  clear hy374
  by_cases c5 : y374.length + l2.length < 4398046511104
  ·rw [if_pos c5] at H
   have LMc5 := Aside0.mk c5
   clear c5
   obtain ⟨y377, hy377⟩ : ∃ y_ : List (S26), y_ = (y374 ++ l2) := ⟨_, rfl⟩
   replace H : ((miradorref15_Borders.f k y377).bind fun bt380 => (miradorref15_Combine.l0 k a0 l1 l2 bt380.1 bt380.2 ([] : List (S26)) ([] : List (S26)) 0)) = some r := by first | (rw [hy377]; with_reducible exact H) | (have H2_ := (Option.bind_some _ _).symm.trans H; rw [hy377]; with_reducible exact H2_) | (have H2_ := (Option.bind_some _ _).symm.trans H; with_reducible exact H2_) | with_reducible exact H | (rw [hy377]; exact H) | exact H
   have Ny377 := Aside0.mk hy377
   clear hy377
   replace H := Option.bind_eq_some_iff.mp H
   obtain ⟨⟨t380, t381⟩, A60, H⟩ := H
   replace H : (miradorref15_Combine.l0 k a0 l1 l2 t380 t381 ([] : List (S26)) ([] : List (S26)) 0) = some r := H
   have A6 := Aside0.mk A60
   clear A60
   have H' := Aside0.mk H
   clear H
   go_enter Try.func14, Try.ntmps14
   go_wp2_with (first | ((with_reducible refine gate_builtin (b := .append) (xs := #[.tmp 17, .tmp 18]) rfl ?_); at_builtin; refine Kd.R_append_rows k26 (w0 := w) w.heap.size rfl (.tmp 17) (.tmp 18) 22 26 (.agg #[(.int .i64 0), (.int .i64 0), (.int .i64 0), (.int .i64 0)]) 32 rfl Try.underlying22 info26 rfl (by decide) (by omega) (.slice none 0 0) ([] : List (S26)) l1 _ _ _ (fun _ => True) (fun _ => False) rfl rfl ?aO ?aR (fun _ _ h => h) (fun _ h => h.elim) ?aF ?aB ?aS ?aL ?_; (case aR => repeat (first | exact HR1.out | (with_reducible refine Kd.C_alloc ?_ _) | (with_reducible refine Kd.C_drewN ?_ _) | (with_reducible refine Kd.C_drew ?_))); (case aB => exact (by repeat (first | (with_reducible first | exact HB.out | apply below_alloc | apply pw_below_drewN | apply below_drew1) | exact HB.out))); (case aF => exact (fun _ _ => trivial)); (case aO => exact ((Kd.R_nil _ _ _ _ (fun _ => True)))); (case aS => exact (below_size (by repeat (first | (with_reducible first | exact HB.out | apply below_alloc | apply pw_below_drewN | apply below_drew1) | exact HB.out)))); (case aL => have := LMc4.out; omega); intro v375 w7 ho hb hg hat; rw [← Ny374.out] at ho; have n0_ := Aside0.mk (hb); have n1_ := Aside0.mk (ho); clear HB; have HB := n0_; have HO376 := n1_; clear n0_ n1_; clear ho hb hg hat) | ((with_reducible refine gate_builtin (b := .append) (xs := #[.tmp 20, .tmp 21]) rfl ?_); at_builtin; refine Kd.R_append_rows k26 (w0 := w) w.heap.size rfl (.tmp 20) (.tmp 21) 22 26 (.agg #[(.int .i64 0), (.int .i64 0), (.int .i64 0), (.int .i64 0)]) 32 rfl Try.underlying22 info26 rfl (by decide) (by omega) v375 y374 l2 _ _ _ (fun _ => True) (fun _ => False) rfl rfl ?aO ?aR (fun _ _ h => h) (fun _ h => h.elim) ?aF ?aB ?aS ?aL ?_; (case aR => repeat (first | exact (Kd.C_below HR2.out HB.out) | (with_reducible refine Kd.C_alloc ?_ _) | (with_reducible refine Kd.C_drewN ?_ _) | (with_reducible refine Kd.C_drew ?_))); (case aB => exact (by repeat (first | (with_reducible first | exact HB.out | apply below_alloc | apply pw_below_drewN | apply below_drew1) | exact HB.out))); (case aF => exact (fun _ _ => trivial)); (case aO => exact (by (with_reducible repeat (first | apply Kd.R_alloc | apply Kd.R_drewN | apply Kd.R_drew)); exact HO376.out)); (case aS => exact (below_size (by repeat (first | (with_reducible first | exact HB.out | apply below_alloc | apply pw_below_drewN | apply below_drew1) | exact HB.out)))); (case aL => have := LMc5.out; omega); intro v378 w8 ho hb hg hat; rw [← Ny377.out] at ho; have n0_ := Aside0.mk (hb); have n1_ := Aside0.mk (ho); clear HB; clear HO376; have HB := n0_; have HO379 := n1_; clear n0_ n1_; clear ho hb hg hat; obtain ⟨Ao9, co9, eo9⟩ := Kd.R_slice HO379.out; subst eo9) | ((with_reducible refine gate_callee (f := 27) rfl ?_); refine goesL_ (some 25) rfl rfl Try.func27 (by kernel_rfl) rfl #[.slice Ao9 y377.length co9] rfl (by (try simp only [List.map_toArray, List.map_cons, List.map_nil]); first | done | rfl | (simp only [List.length_drop, List.length_take]; rfl)) ?_; (with_reducible refine (miradorref15_Borders.calls k _ _ y377 t380 t381 _ ?side1 ?side2 A6.out).mono ?_); (case side1 => repeat (first | exact (Kd.R_reads' HO379.out).2.2 | (with_reducible refine Kd.C_alloc ?_ _) | (with_reducible refine Kd.C_drewN ?_ _) | (with_reducible refine Kd.C_drew ?_))); (case side2 => exact (Kd.R_reads' HO379.out).2.1); rintro e w10 ⟨v382, v384, rfl, ho0, ho1, hb⟩; refine ⟨_, rfl, ?_⟩; have n0_ := Aside0.mk (Kd.R_below (by (with_reducible repeat (first | apply Kd.R_alloc | apply Kd.R_drewN | apply Kd.R_drew)); exact HO379.out) hb); have n1_ := Aside0.mk (Kd.R_lower ho0 (below_size (by repeat (first | (with_reducible first | exact HB.out | apply below_alloc | apply pw_below_drewN | apply below_drew1) | exact HB.out)))); have n2_ := Aside0.mk (Kd.R_lower ho1 (below_size (by repeat (first | (with_reducible first | exact HB.out | apply below_alloc | apply pw_below_drewN | apply below_drew1) | exact HB.out)))); have n3_ := Aside0.mk (below_step (by repeat (first | (with_reducible first | exact HB.out | apply below_alloc | apply pw_below_drewN | apply below_drew1) | exact HB.out)) hb); clear HO379; clear HB; have HO379 := n0_; have HO383 := n1_; have HO385 := n2_; have HB := n3_; clear n0_ n1_ n2_ n3_; (try clear hb); (try clear hb2); (try clear hk); (try clear hi); (try clear ho0); (try clear ho1)))
   go_loopg [10, 11, 12] k (fun kq v10 v11 v12 w' => ∃ (x10_1 : List (S26)) (x11_1 : List (S26)) (x12_1 : Int), v12 = .int .i64 x12_1 ∧ Aside0 (miradorref15_Combine.l0 kq a0 l1 l2 t380 t381 x10_1 x11_1 x12_1 = some r) ∧ Aside0 (kq ≤ k) ∧ Aside0 (Kd.R (Kd.int .i64) 3 w' w.heap.size (fun k_ => some k_ ≠ (v384 : Value).ownBlock) v382 t380) ∧ Aside0 (Kd.R (Kd.int .i64) 3 w' w.heap.size (fun k_ => some k_ ≠ (v382 : Value).ownBlock) v384 t381) ∧ Aside0 (Kd.R k26 26 w' w.heap.size (fun k_ => some k_ ≠ (v11 : Value).ownBlock) v10 x10_1) ∧ Aside0 (Kd.R k26 26 w' w.heap.size (fun k_ => some k_ ≠ (v10 : Value).ownBlock) v11 x11_1) ∧ Aside0 (Below w.heap.size w w'))
   case atStart => exact ⟨(([] : List (S26))), (([] : List (S26))), (0), (by first | rfl | (simp; done) | (simp [*]; done)), H', ⟨Nat.le_refl _⟩, ⟨by (with_reducible repeat (first | apply Kd.R_alloc | apply Kd.R_drewN | apply Kd.R_drew)); exact HO383.out⟩, ⟨by (with_reducible repeat (first | apply Kd.R_alloc | apply Kd.R_drewN | apply Kd.R_drew)); exact HO385.out⟩, ⟨by first | exact Kd.R_nil _ _ _ _ _ | exact Kd.N_nil _ _ _ _ _ | exact Kd.V_nil _ _ _ _ _ | exact Kd.Q_nil _ _ _ _ _ | exact Kd.S_nil _ _ _ _ _⟩, ⟨by first | exact Kd.R_nil _ _ _ _ _ | exact Kd.N_nil _ _ _ _ _ | exact Kd.V_nil _ _ _ _ _ | exact Kd.Q_nil _ _ _ _ _ | exact Kd.S_nil _ _ _ _ _⟩, ⟨by repeat (first | (with_reducible first | exact HB.out | apply below_alloc | apply pw_below_drewN | apply below_drew1) | exact HB.out)⟩⟩
   case round =>
    clear H'
    try clear c1
    try clear c2
    try clear p2
    try clear c4
    try clear c5
    obtain ⟨x10_1, x11_1, x12_1, rfl, HA, HK1, HO_8, HO_9, HO_10, HO_11, HB⟩ := hrel
    cases gk with
    | zero => exact absurd HA.out (by simp [miradorref15_Combine.l0])
    | succ k1 =>
     have H := HA.out
     clear HA
     simp only [miradorref15_Combine.l0] at H
     by_cases c11 : (wrap64 (x12_1 + 1)) < (t381.length : Int)
     ·rw [if_pos c11] at H
      have c11b0 : decide ((wrap64 (x12_1 + 1)) < (t381.length : Int)) = true := decide_eq_true c11
      clear c11
      have H' := Aside0.mk H
      clear H
      obtain ⟨Ao12, co12, eo12⟩ := Kd.R_slice HO_9.out
      subst eo12
      go_wp2
      go_loopg [13, 14] k1 (fun kq v13 v14 w' => ∃ (x10_2 : List (S26)) (x11_2 : List (S26)) (x13_2 : List (S26)) (x14_2 : Int), v14 = .int .i64 x14_2 ∧ Aside0 (miradorref15_Combine.l1 kq a0 l1 l2 t380 t381 x10_2 x11_2 x12_1 x13_2 x14_2 = some r) ∧ Aside0 (kq ≤ k1) ∧ Aside0 (Kd.R (Kd.int .i64) 3 w' w.heap.size (fun k_ => some k_ ≠ ((.slice Ao12 t381.length co12) : Value).ownBlock) v382 t380) ∧ Aside0 (Kd.R (Kd.int .i64) 3 w' w.heap.size (fun k_ => some k_ ≠ (v382 : Value).ownBlock) (.slice Ao12 t381.length co12) t381) ∧ Aside0 (Kd.R k26 26 w' w.heap.size (fun k_ => some k_ ≠ (u11 : Value).ownBlock ∧ some k_ ≠ (v13 : Value).ownBlock) u10 x10_2) ∧ Aside0 (Kd.R k26 26 w' w.heap.size (fun k_ => some k_ ≠ (u10 : Value).ownBlock ∧ some k_ ≠ (v13 : Value).ownBlock) u11 x11_2) ∧ Aside0 (Kd.R k26 26 w' w.heap.size (fun k_ => some k_ ≠ (u10 : Value).ownBlock ∧ some k_ ≠ (u11 : Value).ownBlock) v13 x13_2) ∧ Aside0 (Below w.heap.size w w'))
      case atStart => exact ⟨(x10_1), (x11_1), (([] : List (S26))), (0), (by first | rfl | (simp; done) | (simp [*]; done)), H', ⟨Nat.le_refl _⟩, ⟨by (with_reducible repeat (first | apply Kd.R_alloc | apply Kd.R_drewN | apply Kd.R_drew)); exact HO_8.out⟩, ⟨by (with_reducible repeat (first | apply Kd.R_alloc | apply Kd.R_drewN | apply Kd.R_drew)); exact HO_9.out⟩, ⟨by (with_reducible repeat (first | apply Kd.R_alloc | apply Kd.R_drewN | apply Kd.R_drew)); exact Kd.R_mono HO_10.out (fun _ hk => ⟨hk, (by simp [Value.ownBlock])⟩)⟩, ⟨by (with_reducible repeat (first | apply Kd.R_alloc | apply Kd.R_drewN | apply Kd.R_drew)); exact Kd.R_mono HO_11.out (fun _ hk => ⟨hk, (by simp [Value.ownBlock])⟩)⟩, ⟨by first | exact Kd.R_nil _ _ _ _ _ | exact Kd.N_nil _ _ _ _ _ | exact Kd.V_nil _ _ _ _ _ | exact Kd.Q_nil _ _ _ _ _ | exact Kd.S_nil _ _ _ _ _⟩, ⟨by repeat (first | (with_reducible first | exact HB.out | apply below_alloc | apply pw_below_drewN | apply below_drew1) | exact HB.out)⟩⟩
      case round =>
       clear H'
       try clear c1
       try clear c2
       try clear p2
       try clear c4
       try clear c5
       try clear p6
       try clear c11
       try clear c11b0
       try clear p2
       obtain ⟨x10_2, x11_2, x13_2, x14_2, rfl, HA, HK2, HO_8, HO_9, HO_10, HO_11, HO_13, HB⟩ := hrel
       cases gk with
       | zero => exact absurd HA.out (by simp [miradorref15_Combine.l1])
       | succ k2 =>
        have H := HA.out
        clear HA
        simp only [miradorref15_Combine.l1] at H
        by_cases c13 : (wrap64 (x14_2 + 1)) < (t380.length : Int)
        ·rw [if_pos c13] at H
         have c13b0 : decide ((wrap64 (x14_2 + 1)) < (t380.length : Int)) = true := decide_eq_true c13
         clear c13
         by_cases c14 : 0 ≤ x14_2
         ·rw [if_pos c14] at H
          have c14b0 : decide (0 ≤ x14_2) = true := decide_eq_true c14
          clear c14
          by_cases c15 : x14_2 < (t380.length : Int)
          ·rw [if_pos c15] at H
           have c15b0 : decide (x14_2 < (t380.length : Int)) = true := decide_eq_true c15
           clear c15
           by_cases c16 : 0 ≤ x12_1
           ·rw [if_pos c16] at H
            have c16b0 : decide (0 ≤ x12_1) = true := decide_eq_true c16
            clear c16
            by_cases c17 : x12_1 < (t381.length : Int)
            ·rw [if_pos c17] at H
             have c17b0 : decide (x12_1 < (t381.length : Int)) = true := decide_eq_true c17
             clear c17
             replace H := Option.bind_eq_some_iff.mp H
             obtain ⟨t391, A180, H⟩ := H
             replace H : (if t391 = true then (if (x13_2.length : Int) > 0 then (if 0 ≤ (wrap64 ((x13_2.length : Int) - 1)) then (if (wrap64 ((x13_2.length : Int) - 1)) < (x13_2.length : Int) then (if (wrap64 (((rd_T26 x13_2 (wrap64 ((x13_2.length : Int) - 1))).f0) + ((rd_T26 x13_2 (wrap64 ((x13_2.length : Int) - 1))).f2))) = (rd t380 x14_2) then (if 0 ≤ (wrap64 (x14_2 + 1)) then (miradorref15_Combine.l1 k2 a0 l1 l2 t380 t381 x10_2 x11_2 x12_1 (x13_2.set ((wrap64 ((x13_2.length : Int) - 1)) : Int).toNat (⟨(rd_T26 x13_2 (wrap64 ((x13_2.length : Int) - 1))).f0, (rd_T26 x13_2 (wrap64 ((x13_2.length : Int) - 1))).f1, wrap64 ((rd t380 (wrap64 (x14_2 + 1))) - ((rd_T26 x13_2 (wrap64 ((x13_2.length : Int) - 1))).f0)), (rd_T26 x13_2 (wrap64 ((x13_2.length : Int) - 1))).f3⟩ : S26)) (wrap64 (x14_2 + 1))) else (none)) else (if 0 ≤ (wrap64 (x14_2 + 1)) then (if 0 ≤ (wrap64 (x12_1 + 1)) then (if (wrap64 (x12_1 + 1)) < (t381.length : Int) then (if x13_2.length < 4398046511104 then (miradorref15_Combine.l1 k2 a0 l1 l2 t380 t381 x10_2 x11_2 x12_1 (x13_2 ++ [(⟨rd t380 x14_2, rd t381 x12_1, wrap64 ((rd t380 (wrap64 (x14_2 + 1))) - (rd t380 x14_2)), wrap64 ((rd t381 (wrap64 (x12_1 + 1))) - (rd t381 x12_1))⟩ : S26)]) (wrap64 (x14_2 + 1))) else (none)) else (none)) else (none)) else (none))) else (none)) else (none)) else (if 0 ≤ (wrap64 (x14_2 + 1)) then (if 0 ≤ (wrap64 (x12_1 + 1)) then (if (wrap64 (x12_1 + 1)) < (t381.length : Int) then (if x13_2.length < 4398046511104 then (miradorref15_Combine.l1 k2 a0 l1 l2 t380 t381 x10_2 x11_2 x12_1 (x13_2 ++ [(⟨rd t380 x14_2, rd t381 x12_1, wrap64 ((rd t380 (wrap64 (x14_2 + 1))) - (rd t380 x14_2)), wrap64 ((rd t381 (wrap64 (x12_1 + 1))) - (rd t381 x12_1))⟩ : S26)]) (wrap64 (x14_2 + 1))) else (none)) else (none)) else (none)) else (none))) else (miradorref15_Combine.l1 k2 a0 l1 l2 t380 t381 x10_2 x11_2 x12_1 x13_2 (wrap64 (x14_2 + 1)))) = some r := H
             have A18 := Aside0.mk A180
             clear A180
             by_cases c19 : t391 = true
             ·subst c19
              have H1 : (if (x13_2.length : Int) > 0 then (if 0 ≤ (wrap64 ((x13_2.length : Int) - 1)) then (if (wrap64 ((x13_2.length : Int) - 1)) < (x13_2.length : Int) then (if (wrap64 (((rd_T26 x13_2 (wrap64 ((x13_2.length : Int) - 1))).f0) + ((rd_T26 x13_2 (wrap64 ((x13_2.length : Int) - 1))).f2))) = (rd t380 x14_2) then (if 0 ≤ (wrap64 (x14_2 + 1)) then (miradorref15_Combine.l1 k2 a0 l1 l2 t380 t381 x10_2 x11_2 x12_1 (x13_2.set ((wrap64 ((x13_2.length : Int) - 1)) : Int).toNat (⟨(rd_T26 x13_2 (wrap64 ((x13_2.length : Int) - 1))).f0, (rd_T26 x13_2 (wrap64 ((x13_2.length : Int) - 1))).f1, wrap64 ((rd t380 (wrap64 (x14_2 + 1))) - ((rd_T26 x13_2 (wrap64 ((x13_2.length : Int) - 1))).f0)), (rd_T26 x13_2 (wrap64 ((x13_2.length : Int) - 1))).f3⟩ : S26)) (wrap64 (x14_2 + 1))) else (none)) else (if 0 ≤ (wrap64 (x14_2 + 1)) then (if 0 ≤ (wrap64 (x12_1 + 1)) then (if (wrap64 (x12_1 + 1)) < (t381.length : Int) then (if x13_2.length < 4398046511104 then (miradorref15_Combine.l1 k2 a0 l1 l2 t380 t381 x10_2 x11_2 x12_1 (x13_2 ++ [(⟨rd t380 x14_2, rd t381 x12_1, wrap64 ((rd t380 (wrap64 (x14_2 + 1))) - (rd t380 x14_2)), wrap64 ((rd t381 (wrap64 (x12_1 + 1))) - (rd t381 x12_1))⟩ : S26)]) (wrap64 (x14_2 + 1))) else (none)) else (none)) else (none)) else (none))) else (none)) else (none)) else (if 0 ≤ (wrap64 (x14_2 + 1)) then (if 0 ≤ (wrap64 (x12_1 + 1)) then (if (wrap64 (x12_1 + 1)) < (t381.length : Int) then (if x13_2.length < 4398046511104 then (miradorref15_Combine.l1 k2 a0 l1 l2 t380 t381 x10_2 x11_2 x12_1 (x13_2 ++ [(⟨rd t380 x14_2, rd t381 x12_1, wrap64 ((rd t380 (wrap64 (x14_2 + 1))) - (rd t380 x14_2)), wrap64 ((rd t381 (wrap64 (x12_1 + 1))) - (rd t381 x12_1))⟩ : S26)]) (wrap64 (x14_2 + 1))) else (none)) else (none)) else (none)) else (none))) = some r := by rw [if_pos rfl] at H; exact H
              clear H
              have H := H1
              clear H1
              by_cases c20 : (x13_2.length : Int) > 0
              ·rw [if_pos c20] at H
               have c20b0 : decide (0 < (x13_2.length : Int)) = true := decide_eq_true c20
               have c20b1 : decide (0 < x13_2.length) = true := decide_eq_true (by omega)
               clear c20
               obtain ⟨ji21, hji21⟩ : ∃ j_ : Int, (wrap64 ((x13_2.length : Int) - 1)) = j_ := ⟨_, rfl⟩
               replace H : (if 0 ≤ (ji21) then (if (ji21) < (x13_2.length : Int) then (if (wrap64 (((rd_T26 x13_2 (ji21)).f0) + ((rd_T26 x13_2 (ji21)).f2))) = (rd t380 x14_2) then (if 0 ≤ (wrap64 (x14_2 + 1)) then (miradorref15_Combine.l1 k2 a0 l1 l2 t380 t381 x10_2 x11_2 x12_1 (x13_2.set ((ji21) : Int).toNat (⟨(rd_T26 x13_2 (ji21)).f0, (rd_T26 x13_2 (ji21)).f1, wrap64 ((rd t380 (wrap64 (x14_2 + 1))) - ((rd_T26 x13_2 (ji21)).f0)), (rd_T26 x13_2 (ji21)).f3⟩ : S26)) (wrap64 (x14_2 + 1))) else (none)) else (if 0 ≤ (wrap64 (x14_2 + 1)) then (if 0 ≤ (wrap64 (x12_1 + 1)) then (if (wrap64 (x12_1 + 1)) < (t381.length : Int) then (if x13_2.length < 4398046511104 then (miradorref15_Combine.l1 k2 a0 l1 l2 t380 t381 x10_2 x11_2 x12_1 (x13_2 ++ [(⟨rd t380 x14_2, rd t381 x12_1, wrap64 ((rd t380 (wrap64 (x14_2 + 1))) - (rd t380 x14_2)), wrap64 ((rd t381 (wrap64 (x12_1 + 1))) - (rd t381 x12_1))⟩ : S26)]) (wrap64 (x14_2 + 1))) else (none)) else (none)) else (none)) else (none))) else (none)) else (none)) = some r := by first | (rw [hji21] at H; exact H) | (simp only [hji21] at H ⊢; exact H)
               (try rw [hji21] at A18)
               have hji21w : (IntKind.i64.wrap ((x13_2.length : Int) - 1)) = ji21 := (i64_w _).trans hji21
               by_cases c22 : 0 ≤ (ji21)
               ·rw [if_pos c22] at H
                have c22b0 : decide (0 ≤ (ji21)) = true := decide_eq_true c22
                clear c22
                by_cases c23 : (ji21) < (x13_2.length : Int)
                ·rw [if_pos c23] at H
                 have c23b0 : decide ((ji21) < (x13_2.length : Int)) = true := decide_eq_true c23
                 clear c23
                 by_cases c24 : (wrap64 (((rd_T26 x13_2 (ji21)).f0) + ((rd_T26 x13_2 (ji21)).f2))) = (rd t380 x14_2)
                 ·rw [if_pos c24] at H
                  have c24b0 : ((wrap64 (((rd_T26 x13_2 (ji21)).f0) + ((rd_T26 x13_2 (ji21)).f2))) == (rd t380 x14_2)) = true := beq_iff_eq.mpr c24
                  have c24b1 : ((wrap64 (((rd_T26 x13_2 (ji21)).f0) + ((rd_T26 x13_2 (ji21)).f2))) != (rd t380 x14_2)) = false := bne_eq_false_iff_eq.mpr c24
                  clear c24
                  obtain ⟨ji25, hji25⟩ : ∃ j_ : Int, (wrap64 (x14_2 + 1)) = j_ := ⟨_, rfl⟩
                  replace H : (if 0 ≤ (ji25) then (miradorref15_Combine.l1 k2 a0 l1 l2 t380 t381 x10_2 x11_2 x12_1 (x13_2.set ((ji21) : Int).toNat (⟨(rd_T26 x13_2 (ji21)).f0, (rd_T26 x13_2 (ji21)).f1, wrap64 ((rd t380 (ji25)) - ((rd_T26 x13_2 (ji21)).f0)), (rd_T26 x13_2 (ji21)).f3⟩ : S26)) ji25) else (none)) = some r := by first | (rw [hji25] at H; exact H) | (simp only [hji25] at H ⊢; exact H)
                  (try rw [hji25] at c13b0)
                  (try rw [hji25] at A18)
                  have hji25w : (IntKind.i64.wrap (x14_2 + 1)) = ji25 := (i64_w _).trans hji25
                  by_cases c26 : 0 ≤ (ji25)
                  ·rw [if_pos c26] at H
                   have c26b0 : decide (0 ≤ (ji25)) = true := decide_eq_true c26
                   clear c26
                   obtain ⟨y397, hy397⟩ : ∃ y_ : List (S26), y_ = (x13_2.set ((ji21) : Int).toNat (⟨(rd_T26 x13_2 (ji21)).f0, (rd_T26 x13_2 (ji21)).f1, wrap64 ((rd t380 (ji25)) - ((rd_T26 x13_2 (ji21)).f0)), (rd_T26 x13_2 (ji21)).f3⟩ : S26)) := ⟨_, rfl⟩
                   replace H : (miradorref15_Combine.l1 k2 a0 l1 l2 t380 t381 x10_2 x11_2 x12_1 y397 ji25) = some r := by first | (rw [hy397]; with_reducible exact H) | (have H2_ := (Option.bind_some _ _).symm.trans H; rw [hy397]; with_reducible exact H2_) | (have H2_ := (Option.bind_some _ _).symm.trans H; with_reducible exact H2_) | with_reducible exact H | (rw [hy397]; exact H) | exact H
                   have Ny397 := Aside0.mk hy397
                   clear hy397
                   have H' := Aside0.mk H
                   clear H
                   obtain ⟨Ao28, co28, eo28⟩ := Kd.R_slice HO_8.out
                   subst eo28
                   try go_wp2
                   have n0_ := Aside0.mk (Kd.R_drew HO_8.out)
                   have n1_ := Aside0.mk (Kd.R_drew HO_9.out)
                   have n2_ := Aside0.mk (Kd.R_drew HO_10.out)
                   have n3_ := Aside0.mk (Kd.R_drew HO_11.out)
                   have n4_ := Aside0.mk (Kd.R_drew HO_13.out)
                   have n5_ := Aside0.mk (below_drew1 HB.out)
                   clear HO_8
                   clear HO_9
                   clear HO_10
                   clear HO_11
                   clear HO_13
                   clear HB
                   have HO_8 := n0_
                   have HO_9 := n1_
                   have HO_10 := n2_
                   have HO_11 := n3_
                   have HO_13 := n4_
                   have HB := n5_
                   clear n0_ n1_ n2_ n3_ n4_ n5_
                   have p389 : 0 ≤ (x14_2 : Int) := of_decide_eq_true (by first | (with_reducible assumption) | assumption)
                   have q389 : x14_2 < (t380.length : Int) := of_decide_eq_true (by first | (with_reducible assumption) | assumption)
                   obtain ⟨ad389, e389, hx389_0⟩ := Kd.at_int (Kd.R_reads' HO_8.out).2.2 x14_2 p389 q389
                   cases e389
                   replace p389 := eq_true p389
                   replace q389 := eq_true q389
                   have p390 : 0 ≤ (x12_1 : Int) := of_decide_eq_true (by first | (with_reducible assumption) | assumption)
                   have q390 : x12_1 < (t381.length : Int) := of_decide_eq_true (by first | (with_reducible assumption) | assumption)
                   obtain ⟨ad390, e390, hx390_0⟩ := Kd.at_int (Kd.R_reads' HO_9.out).2.2 x12_1 p390 q390
                   cases e390
                   replace p390 := eq_true p390
                   replace q390 := eq_true q390
                   refine start_ (n := 13) (S := fun w' => w'.cell? (ad389.add (x14_2).toNat) = some (.int .i64 (rd t380 x14_2)) ∧ w'.cell? (ad390.add (x12_1).toNat) = some (.int .i64 (rd t381 x12_1))) (ds := []) #[false, false, false, false, false, false, false, false, false, false, false, false, false] (by kernel_rfl) rfl rfl ⟨hx389_0, hx390_0⟩ (fun hHeld => ?_); refine with_tabW miradorref15_Combine.tab14 miradorref15_Combine.bits14 (fun HT_ HW_ => ?_)
                   generalize wr.drew = w29 at HO_8 HO_9 HO_10 HO_11 HO_13 HB hx389_0 hx390_0 hHeld ⊢
                   refine pure_ (i := 0) (N := some 42) (v := ?_) (a' := ?_) #[true, false, false, false, false, false, false, false, false, false, false, false, false] rfl rfl (any_of HT_.out (by kernel_rfl)) (fun _ _ _ h => h) (Or.inl ⟨by rfl, ?_⟩) ?_ ?_
                   rotate_left
                   ·intro w'
                    go_simp
                    with_reducible rfl
                   rotate_left
                   ·simp only [Act.put, List.setIfInBounds_toArray, List.set_cons_zero, List.set_cons_succ, i64_w, i32_w]
                    rfl
                   refine pure_ (i := 1) (N := some 43) (v := ?_) (a' := ?_) #[true, true, false, false, false, false, false, false, false, false, false, false, false] rfl rfl (any_of HT_.out (by kernel_rfl)) (fun _ _ _ h => h) (Or.inl ⟨by rfl, ?_⟩) ?_ ?_
                   rotate_left
                   ·intro w'
                    go_simp
                    with_reducible rfl
                   rotate_left
                   ·simp only [Act.put, List.setIfInBounds_toArray, List.set_cons_zero, List.set_cons_succ, i64_w, i32_w]
                    rfl
                   refine pure_ (i := 2) (N := some 44) (v := ?_) (a' := ?_) #[true, true, true, false, false, false, false, false, false, false, false, false, false] rfl rfl (any_of HT_.out (by kernel_rfl)) (fun _ _ _ h => h) (Or.inl ⟨by rfl, ?_⟩) ?_ ?_
                   rotate_left
                   ·intro w'
                    go_simp
                    with_reducible rfl
                   rotate_left
                   ·simp only [Act.put, List.setIfInBounds_toArray, List.set_cons_zero, List.set_cons_succ, i64_w, i32_w]
                    rfl
                   refine pure_ (i := 3) (N := some 45) (v := ?_) (a' := ?_) #[true, true, true, true, false, false, false, false, false, false, false, false, false] rfl rfl (any_of HT_.out (by kernel_rfl)) (fun _ _ _ h => h) (Or.inl ⟨by rfl, ?_⟩) ?_ ?_
                   rotate_left
                   ·intro w'
                    go_simp
                    with_reducible rfl
                   rotate_left
                   ·simp only [Act.put, List.setIfInBounds_toArray, List.set_cons_zero, List.set_cons_succ, i64_w, i32_w]
                    rfl
                   refine pure_ (i := 4) (N := some 46) (v := ?_) (a' := ?_) #[true, true, true, true, true, false, false, false, false, false, false, false, false] rfl rfl (any_of HT_.out (by kernel_rfl)) (fun _ _ _ h => h) (Or.inl ⟨by rfl, ?_⟩) ?_ ?_
                   rotate_left
                   ·intro w'
                    go_simp
                    with_reducible rfl
                   rotate_left
                   ·simp only [Act.put, List.setIfInBounds_toArray, List.set_cons_zero, List.set_cons_succ, i64_w, i32_w]
                    rfl
                   refine pure_ (i := 5) (N := some 47) (v := ?_) (a' := ?_) #[true, true, true, true, true, true, false, false, false, false, false, false, false] rfl rfl (any_of HT_.out (by kernel_rfl)) (fun _ _ _ h => h) (Or.inl ⟨by rfl, ?_⟩) ?_ ?_
                   rotate_left
                   ·intro w'
                    go_simp
                    with_reducible rfl
                   rotate_left
                   ·simp only [Act.put, List.setIfInBounds_toArray, List.set_cons_zero, List.set_cons_succ, i64_w, i32_w]
                    rfl
                   refine pure_ (i := 7) (N := some 49) (v := ?_) (a' := ?_) #[true, true, true, true, true, true, false, true, false, false, false, false, false] rfl rfl (any_of HT_.out (by kernel_rfl)) (fun _ _ _ h => h) (Or.inl ⟨by rfl, ?_⟩) ?_ ?_
                   rotate_left
                   ·intro w'
                    go_simp
                    with_reducible rfl
                   rotate_left
                   ·simp only [Act.put, List.setIfInBounds_toArray, List.set_cons_zero, List.set_cons_succ, i64_w, i32_w]
                    rfl
                   refine pure_ (i := 8) (N := some 50) (v := ?_) (a' := ?_) #[true, true, true, true, true, true, false, true, true, false, false, false, false] rfl rfl (any_of HT_.out (by kernel_rfl)) (fun _ _ _ h => h) (Or.inl ⟨by rfl, ?_⟩) ?_ ?_
                   rotate_left
                   ·intro w'
                    go_simp
                    with_reducible rfl
                   rotate_left
                   ·simp only [Act.put, List.setIfInBounds_toArray, List.set_cons_zero, List.set_cons_succ, i64_w, i32_w]
                    rfl
                   refine pure_ (i := 9) (N := some 51) (v := ?_) (a' := ?_) #[true, true, true, true, true, true, false, true, true, true, false, false, false] rfl rfl (any_of HT_.out (by kernel_rfl)) (fun _ _ _ h => h) (Or.inl ⟨by rfl, ?_⟩) ?_ ?_
                   rotate_left
                   ·intro w'
                    go_simp
                    with_reducible rfl
                   rotate_left
                   ·simp only [Act.put, List.setIfInBounds_toArray, List.set_cons_zero, List.set_cons_succ, i64_w, i32_w]
                    rfl
                   refine take_ (i := 6) (N := some 48) (v := ?_) (a' := ?_) #[true, true, true, true, true, true, true, true, true, true, false, false, false] rfl rfl (take_ofW HT_.out HW_.out (by kernel_rfl)) (fun _ _ _ h => h) (Or.inl ⟨by rfl, ?_⟩) hHeld ?_ ?_
                   rotate_left
                   ·rintro w' ⟨s0, s1⟩
                    go_simp
                    with_reducible rfl
                   rotate_left
                   ·simp only [Act.put, List.setIfInBounds_toArray, List.set_cons_zero, List.set_cons_succ, i64_w, i32_w]
                    rfl
                   refine take_ (i := 10) (N := some 52) (v := ?_) (a' := ?_) #[true, true, true, true, true, true, true, true, true, true, true, false, false] rfl rfl (take_ofW HT_.out HW_.out (by kernel_rfl)) (fun _ _ _ h => h) (Or.inl ⟨by rfl, ?_⟩) hHeld ?_ ?_
                   rotate_left
                   ·rintro w' ⟨s0, s1⟩
                    go_simp
                    with_reducible rfl
                   rotate_left
                   ·simp only [Act.put, List.setIfInBounds_toArray, List.set_cons_zero, List.set_cons_succ, i64_w, i32_w]
                    rfl
                   refine one_ (i := 11) (N := some 53) #[true, true, true, true, true, true, true, true, true, true, true, true, false] rfl rfl (one_of HT_.out (by kernel_rfl)) (by decide) (fun K hK => ?_)
                   refine goes_ Try.func28 (by kernel_rfl) rfl #[.int .i64 a0, .slice A1 l1.length c1, .slice A2 l2.length c2, .int .i64 (rd t380 x14_2), .int .i64 (rd t381 x12_1)] (by rfl) rfl rfl (by (try simp only [List.map_toArray, List.map_cons, List.map_nil]); first | done | rfl | (simp only [List.length_drop, List.length_take]; rfl)) ?_
                   with_reducible refine (miradorref15_in.calls k2 a0 _ _ l1 _ _ l2 (rd t380 x14_2) (rd t381 x12_1) true _ ?side1 ?side2 ?side3 ?side4 A18.out).mono ?_
                   (case side1 => repeat (first | exact (Kd.C_below HR1.out HB.out) | (with_reducible refine Kd.C_alloc ?_ _) | (with_reducible refine Kd.C_drewN ?_ _) | (with_reducible refine Kd.C_drew ?_)))
                   (case side2 => exact HC1.out)
                   (case side3 => repeat (first | exact (Kd.C_below HR2.out HB.out) | (with_reducible refine Kd.C_alloc ?_ _) | (with_reducible refine Kd.C_drewN ?_ _) | (with_reducible refine Kd.C_drew ?_)))
                   (case side4 => exact HC2.out)
                   rintro e w30 ⟨rfl, hb⟩
                   have HS0_ := (hb.cell (World.block_lt_of_cell? _ _ (hHeld.1))).trans (hHeld.1)
                   have HS1_ := (hb.cell (World.block_lt_of_cell? _ _ (hHeld.2))).trans (hHeld.2)
                   refine ⟨_, rfl, ?_⟩
                   have n0_ := Aside0.mk (Kd.R_below (by (with_reducible repeat (first | apply Kd.R_alloc | apply Kd.R_drewN | apply Kd.R_drew)); exact HO_8.out) hb)
                   have n1_ := Aside0.mk (Kd.R_below (by (with_reducible repeat (first | apply Kd.R_alloc | apply Kd.R_drewN | apply Kd.R_drew)); exact HO_9.out) hb)
                   have n2_ := Aside0.mk (Kd.R_below (by (with_reducible repeat (first | apply Kd.R_alloc | apply Kd.R_drewN | apply Kd.R_drew)); exact HO_10.out) hb)
                   have n3_ := Aside0.mk (Kd.R_below (by (with_reducible repeat (first | apply Kd.R_alloc | apply Kd.R_drewN | apply Kd.R_drew)); exact HO_11.out) hb)
                   have n4_ := Aside0.mk (Kd.R_below (by (with_reducible repeat (first | apply Kd.R_alloc | apply Kd.R_drewN | apply Kd.R_drew)); exact HO_13.out) hb)
                   have n5_ := Aside0.mk (below_step (by repeat (first | (with_reducible first | exact HB.out | apply below_alloc | apply pw_below_drewN | apply below_drew1) | exact HB.out)) hb)
                   clear HO_8
                   clear HO_9
                   clear HO_10
                   clear HO_11
                   clear HO_13
                   clear HB
                   have HO_8 := n0_
                   have HO_9 := n1_
                   have HO_10 := n2_
                   have HO_11 := n3_
                   have HO_13 := n4_
                   have HB := n5_
                   clear n0_ n1_ n2_ n3_ n4_ n5_
                   (try clear hb)
                   (try clear hb2)
                   (try clear hk)
                   (try clear hi)
                   refine hK.out _ _ ⟨HS0_, HS1_⟩ (fun hHeld => ?_)
                   clear hK K
                   refine norm_ (a' := ?_) ?_ ?_
                   rotate_left
                   ·show Act.put _ (some 53) _ = _
                    simp only [Act.put, List.setIfInBounds_toArray, List.set_cons_zero, List.set_cons_succ, i64_w, i32_w]
                    rfl
                   refine pure_ (i := 12) (N := some 54) (v := ?_) (a' := ?_) #[true, true, true, true, true, true, true, true, true, true, true, true, true] rfl rfl (any_of HT_.out (by kernel_rfl)) (fun _ _ _ h => h) (Or.inl ⟨by rfl, ?_⟩) ?_ ?_
                   rotate_left
                   ·intro w'
                    go_simp
                    with_reducible rfl
                   rotate_left
                   ·simp only [Act.put, List.setIfInBounds_toArray, List.set_cons_zero, List.set_cons_succ, i64_w, i32_w]
                    rfl
                   refine done_ (done_of HT_.out (by kernel_rfl)) ?_
                   obtain ⟨Ao31, co31, eo31⟩ := Kd.R_slice HO_13.out
                   subst eo31
                   try go_wp2
                   have n0_ := Aside0.mk (Kd.R_drew HO_8.out)
                   have n1_ := Aside0.mk (Kd.R_drew HO_9.out)
                   have n2_ := Aside0.mk (Kd.R_drew HO_10.out)
                   have n3_ := Aside0.mk (Kd.R_drew HO_11.out)
                   have n4_ := Aside0.mk (Kd.R_drew HO_13.out)
                   have n5_ := Aside0.mk (below_drew1 HB.out)
                   clear HO_8
                   clear HO_9
                   clear HO_10
                   clear HO_11
                   clear HO_13
                   clear HB
                   have HO_8 := n0_
                   have HO_9 := n1_
                   have HO_10 := n2_
                   have HO_11 := n3_
                   have HO_13 := n4_
                   have HB := n5_
                   clear n0_ n1_ n2_ n3_ n4_ n5_
                   have p392 : 0 ≤ ((ji21) : Int) := of_decide_eq_true (by first | (with_reducible assumption) | assumption)
                   have q392 : (ji21) < (x13_2.length : Int) := of_decide_eq_true (by first | (with_reducible assumption) | assumption)
                   obtain ⟨ad392, e392, hx392_0, hx392_1, hx392_2, hx392_3⟩ := at_T26 (Kd.R_reads' HO_13.out).2.2 (ji21) p392 q392
                   cases e392
                   replace p392 := eq_true p392
                   replace q392 := eq_true q392
                   have p393 : 0 ≤ ((ji21) : Int) := of_decide_eq_true (by first | (with_reducible assumption) | assumption)
                   have q393 : (ji21) < (x13_2.length : Int) := of_decide_eq_true (by first | (with_reducible assumption) | assumption)
                   obtain ⟨ad393, e393, hx393_0, hx393_1, hx393_2, hx393_3⟩ := at_T26 (Kd.R_reads' HO_13.out).2.2 (ji21) p393 q393
                   obtain rfl : ad392 = ad393 := (by injection e393)
                   replace p393 := eq_true p393
                   replace q393 := eq_true q393
                   have p394 : 0 ≤ (x14_2 : Int) := of_decide_eq_true (by first | (with_reducible assumption) | assumption)
                   have q394 : x14_2 < (t380.length : Int) := of_decide_eq_true (by first | (with_reducible assumption) | assumption)
                   obtain ⟨ad394, e394, hx394_0⟩ := Kd.at_int (Kd.R_reads' HO_8.out).2.2 x14_2 p394 q394
                   obtain rfl : ad389 = ad394 := (by injection e394)
                   replace p394 := eq_true p394
                   replace q394 := eq_true q394
                   refine start_ (n := 22) (S := fun w' => w'.cell? (ad392.add (((ji21)).toNat * 4)) = some (.int .i64 ((rd_T26 x13_2 (ji21)).f0)) ∧ w'.cell? ⟨(ad392.add (((ji21)).toNat * 4)).block, (ad392.add (((ji21)).toNat * 4)).off + 1, none⟩ = some (.int .i64 ((rd_T26 x13_2 (ji21)).f1)) ∧ w'.cell? ⟨(ad392.add (((ji21)).toNat * 4)).block, (ad392.add (((ji21)).toNat * 4)).off + 2, none⟩ = some (.int .i64 ((rd_T26 x13_2 (ji21)).f2)) ∧ w'.cell? ⟨(ad392.add (((ji21)).toNat * 4)).block, (ad392.add (((ji21)).toNat * 4)).off + 3, none⟩ = some (.int .i64 ((rd_T26 x13_2 (ji21)).f3)) ∧ w'.cell? (ad392.add (((ji21)).toNat * 4)) = some (.int .i64 ((rd_T26 x13_2 (ji21)).f0)) ∧ w'.cell? ⟨(ad392.add (((ji21)).toNat * 4)).block, (ad392.add (((ji21)).toNat * 4)).off + 1, none⟩ = some (.int .i64 ((rd_T26 x13_2 (ji21)).f1)) ∧ w'.cell? ⟨(ad392.add (((ji21)).toNat * 4)).block, (ad392.add (((ji21)).toNat * 4)).off + 2, none⟩ = some (.int .i64 ((rd_T26 x13_2 (ji21)).f2)) ∧ w'.cell? ⟨(ad392.add (((ji21)).toNat * 4)).block, (ad392.add (((ji21)).toNat * 4)).off + 3, none⟩ = some (.int .i64 ((rd_T26 x13_2 (ji21)).f3)) ∧ w'.cell? (ad389.add (x14_2).toNat) = some (.int .i64 (rd t380 x14_2))) (ds := []) #[false, false, false, false, false, false, false, false, false, false, false, false, false, false, false, false, false, false, false, false, false, false] (by kernel_rfl) rfl rfl ⟨hx392_0, hx392_1, hx392_2, hx392_3, hx393_0, hx393_1, hx393_2, hx393_3, hx394_0⟩ (fun hHeld => ?_); refine with_tabW miradorref15_Combine.tab16 miradorref15_Combine.bits16 (fun HT_ HW_ => ?_)
                   generalize w30.drew = w32 at HO_8 HO_9 HO_10 HO_11 HO_13 HB hx392_0 hx392_1 hx392_2 hx392_3 hx393_0 hx393_1 hx393_2 hx393_3 hx394_0 hHeld ⊢
                   refine pure_ (i := 0) (N := some 57) (v := ?_) (a' := ?_) #[true, false, false, false, false, false, false, false, false, false, false, false, false, false, false, false, false, false, false, false, false, false] rfl rfl (any_of HT_.out (by kernel_rfl)) (fun _ _ _ h => h) (Or.inl ⟨by rfl, ?_⟩) ?_ ?_
                   rotate_left
                   ·intro w'
                    go_simp
                    with_reducible rfl
                   rotate_left
                   ·simp only [Act.put, List.setIfInBounds_toArray, List.set_cons_zero, List.set_cons_succ, i64_w, i32_w]
                    rfl
                   refine pure_ (i := 1) (N := some 58) (v := ?_) (a' := ?_) #[true, true, false, false, false, false, false, false, false, false, false, false, false, false, false, false, false, false, false, false, false, false] rfl rfl (any_of HT_.out (by kernel_rfl)) (fun _ _ _ h => h) (Or.inl ⟨by rfl, ?_⟩) ?_ ?_
                   rotate_left
                   ·intro w'
                    go_simp
                    with_reducible rfl
                   rotate_left
                   ·simp only [Act.put, List.setIfInBounds_toArray, List.set_cons_zero, List.set_cons_succ, i64_w, i32_w]
                    rfl
                   refine pure_ (i := 2) (N := some 59) (v := ?_) (a' := ?_) #[true, true, true, false, false, false, false, false, false, false, false, false, false, false, false, false, false, false, false, false, false, false] rfl rfl (any_of HT_.out (by kernel_rfl)) (fun _ _ _ h => h) (Or.inl ⟨by rfl, ?_⟩) ?_ ?_
                   rotate_left
                   ·intro w'
                    go_simp
                    with_reducible rfl
                   rotate_left
                   ·simp only [Act.put, List.setIfInBounds_toArray, List.set_cons_zero, List.set_cons_succ, i64_w, i32_w]
                    rfl
                   refine pure_ (i := 3) (N := some 60) (v := ?_) (a' := ?_) #[true, true, true, true, false, false, false, false, false, false, false, false, false, false, false, false, false, false, false, false, false, false] rfl rfl (any_of HT_.out (by kernel_rfl)) (fun _ _ _ h => h) (Or.inl ⟨by rfl, ?_⟩) ?_ ?_
                   rotate_left
                   ·intro w'
                    go_simp
                    with_reducible rfl
                   rotate_left
                   ·simp only [Act.put, List.setIfInBounds_toArray, List.set_cons_zero, List.set_cons_succ, i64_w, i32_w]
                    rfl
                   refine pure_ (i := 4) (N := some 61) (v := ?_) (a' := ?_) #[true, true, true, true, true, false, false, false, false, false, false, false, false, false, false, false, false, false, false, false, false, false] rfl rfl (any_of HT_.out (by kernel_rfl)) (fun _ _ _ h => h) (Or.inl ⟨by rfl, ?_⟩) ?_ ?_
                   rotate_left
                   ·intro w'
                    go_simp
                    with_reducible rfl
                   rotate_left
                   ·simp only [Act.put, List.setIfInBounds_toArray, List.set_cons_zero, List.set_cons_succ, i64_w, i32_w]
                    rfl
                   refine pure_ (i := 5) (N := some 62) (v := ?_) (a' := ?_) #[true, true, true, true, true, true, false, false, false, false, false, false, false, false, false, false, false, false, false, false, false, false] rfl rfl (any_of HT_.out (by kernel_rfl)) (fun _ _ _ h => h) (Or.inl ⟨by rfl, ?_⟩) ?_ ?_
                   rotate_left
                   ·intro w'
                    go_simp
                    with_reducible rfl
                   rotate_left
                   ·simp only [Act.put, List.setIfInBounds_toArray, List.set_cons_zero, List.set_cons_succ, i64_w, i32_w]
                    rfl
                   refine pure_ (i := 6) (N := some 63) (v := ?_) (a' := ?_) #[true, true, true, true, true, true, true, false, false, false, false, false, false, false, false, false, false, false, false, false, false, false] rfl rfl (any_of HT_.out (by kernel_rfl)) (fun _ _ _ h => h) (Or.inl ⟨by rfl, ?_⟩) ?_ ?_
                   rotate_left
                   ·intro w'
                    go_simp
                    with_reducible rfl
                   rotate_left
                   ·simp only [Act.put, List.setIfInBounds_toArray, List.set_cons_zero, List.set_cons_succ, i64_w, i32_w]
                    rfl
                   refine pure_ (i := 7) (N := some 64) (v := ?_) (a' := ?_) #[true, true, true, true, true, true, true, true, false, false, false, false, false, false, false, false, false, false, false, false, false, false] rfl rfl (any_of HT_.out (by kernel_rfl)) (fun _ _ _ h => h) (Or.inl ⟨by rfl, ?_⟩) ?_ ?_
                   rotate_left
                   ·intro w'
                    go_simp
                    with_reducible rfl
                   rotate_left
                   ·simp only [Act.put, List.setIfInBounds_toArray, List.set_cons_zero, List.set_cons_succ, i64_w, i32_w]
                    rfl
                   refine pure_ (i := 9) (N := some 66) (v := ?_) (a' := ?_) #[true, true, true, true, true, true, true, true, false, true, false, false, false, false, false, false, false, false, false, false, false, false] rfl rfl (any_of HT_.out (by kernel_rfl)) (fun _ _ _ h => h) (Or.inl ⟨by rfl, ?_⟩) ?_ ?_
                   rotate_left
                   ·intro w'
                    go_simp
                    with_reducible rfl
                   rotate_left
                   ·simp only [Act.put, List.setIfInBounds_toArray, List.set_cons_zero, List.set_cons_succ, i64_w, i32_w]
                    rfl
                   refine pure_ (i := 10) (N := some 67) (v := ?_) (a' := ?_) #[true, true, true, true, true, true, true, true, false, true, true, false, false, false, false, false, false, false, false, false, false, false] rfl rfl (any_of HT_.out (by kernel_rfl)) (fun _ _ _ h => h) (Or.inl ⟨by rfl, ?_⟩) ?_ ?_
                   rotate_left
                   ·intro w'
                    go_simp
                    with_reducible rfl
                   rotate_left
                   ·simp only [Act.put, List.setIfInBounds_toArray, List.set_cons_zero, List.set_cons_succ, i64_w, i32_w]
                    rfl
                   refine pure_ (i := 11) (N := some 68) (v := ?_) (a' := ?_) #[true, true, true, true, true, true, true, true, false, true, true, true, false, false, false, false, false, false, false, false, false, false] rfl rfl (any_of HT_.out (by kernel_rfl)) (fun _ _ _ h => h) (Or.inl ⟨by rfl, ?_⟩) ?_ ?_
                   rotate_left
                   ·intro w'
                    go_simp
                    with_reducible rfl
                   rotate_left
                   ·simp only [Act.put, List.setIfInBounds_toArray, List.set_cons_zero, List.set_cons_succ, i64_w, i32_w]
                    rfl
                   refine pure_ (i := 12) (N := some 69) (v := ?_) (a' := ?_) #[true, true, true, true, true, true, true, true, false, true, true, true, true, false, false, false, false, false, false, false, false, false] rfl rfl (any_of HT_.out (by kernel_rfl)) (fun _ _ _ h => h) (Or.inl ⟨by rfl, ?_⟩) ?_ ?_
                   rotate_left
                   ·intro w'
                    go_simp
                    with_reducible rfl
                   rotate_left
                   ·simp only [Act.put, List.setIfInBounds_toArray, List.set_cons_zero, List.set_cons_succ, i64_w, i32_w]
                    rfl
                   refine pure_ (i := 13) (N := some 70) (v := ?_) (a' := ?_) #[true, true, true, true, true, true, true, true, false, true, true, true, true, true, false, false, false, false, false, false, false, false] rfl rfl (any_of HT_.out (by kernel_rfl)) (fun _ _ _ h => h) (Or.inl ⟨by rfl, ?_⟩) ?_ ?_
                   rotate_left
                   ·intro w'
                    go_simp
                    with_reducible rfl
                   rotate_left
                   ·simp only [Act.put, List.setIfInBounds_toArray, List.set_cons_zero, List.set_cons_succ, i64_w, i32_w]
                    rfl
                   refine pure_ (i := 16) (N := some 73) (v := ?_) (a' := ?_) #[true, true, true, true, true, true, true, true, false, true, true, true, true, true, false, false, true, false, false, false, false, false] rfl rfl (any_of HT_.out (by kernel_rfl)) (fun _ _ _ h => h) (Or.inl ⟨by rfl, ?_⟩) ?_ ?_
                   rotate_left
                   ·intro w'
                    go_simp
                    with_reducible rfl
                   rotate_left
                   ·simp only [Act.put, List.setIfInBounds_toArray, List.set_cons_zero, List.set_cons_succ, i64_w, i32_w]
                    rfl
                   refine pure_ (i := 17) (N := some 74) (v := ?_) (a' := ?_) #[true, true, true, true, true, true, true, true, false, true, true, true, true, true, false, false, true, true, false, false, false, false] rfl rfl (any_of HT_.out (by kernel_rfl)) (fun _ _ _ h => h) (Or.inl ⟨by rfl, ?_⟩) ?_ ?_
                   rotate_left
                   ·intro w'
                    go_simp
                    with_reducible rfl
                   rotate_left
                   ·simp only [Act.put, List.setIfInBounds_toArray, List.set_cons_zero, List.set_cons_succ, i64_w, i32_w]
                    rfl
                   refine pure_ (i := 18) (N := some 75) (v := ?_) (a' := ?_) #[true, true, true, true, true, true, true, true, false, true, true, true, true, true, false, false, true, true, true, false, false, false] rfl rfl (any_of HT_.out (by kernel_rfl)) (fun _ _ _ h => h) (Or.inl ⟨by rfl, ?_⟩) ?_ ?_
                   rotate_left
                   ·intro w'
                    go_simp
                    with_reducible rfl
                   rotate_left
                   ·simp only [Act.put, List.setIfInBounds_toArray, List.set_cons_zero, List.set_cons_succ, i64_w, i32_w]
                    rfl
                   refine take_ (i := 8) (N := some 65) (v := ?_) (a' := ?_) #[true, true, true, true, true, true, true, true, true, true, true, true, true, true, false, false, true, true, true, false, false, false] rfl rfl (take_ofW HT_.out HW_.out (by kernel_rfl)) (fun _ _ _ h => h) (Or.inl ⟨by rfl, ?_⟩) hHeld ?_ ?_
                   rotate_left
                   ·rintro w' ⟨s0, s1, s2, s3, s4, s5, s6, s7, s8⟩
                    go_simp
                    with_reducible rfl
                   rotate_left
                   ·simp only [Act.put, List.setIfInBounds_toArray, List.set_cons_zero, List.set_cons_succ, i64_w, i32_w]
                    rfl
                   refine take_ (i := 14) (N := some 71) (v := ?_) (a' := ?_) #[true, true, true, true, true, true, true, true, true, true, true, true, true, true, true, false, true, true, true, false, false, false] rfl rfl (take_ofW HT_.out HW_.out (by kernel_rfl)) (fun _ _ _ h => h) (Or.inl ⟨by rfl, ?_⟩) hHeld ?_ ?_
                   rotate_left
                   ·rintro w' ⟨s0, s1, s2, s3, s4, s5, s6, s7, s8⟩
                    go_simp
                    with_reducible rfl
                   rotate_left
                   ·simp only [Act.put, List.setIfInBounds_toArray, List.set_cons_zero, List.set_cons_succ, i64_w, i32_w]
                    rfl
                   refine pure_ (i := 15) (N := some 72) (v := ?_) (a' := ?_) #[true, true, true, true, true, true, true, true, true, true, true, true, true, true, true, true, true, true, true, false, false, false] rfl rfl (any_of HT_.out (by kernel_rfl)) (fun _ _ _ h => h) (Or.inl ⟨by rfl, ?_⟩) ?_ ?_
                   rotate_left
                   ·intro w'
                    go_simp
                    with_reducible rfl
                   rotate_left
                   ·simp only [Act.put, List.setIfInBounds_toArray, List.set_cons_zero, List.set_cons_succ, i64_w, i32_w]
                    rfl
                   refine take_ (i := 19) (N := some 76) (v := ?_) (a' := ?_) #[true, true, true, true, true, true, true, true, true, true, true, true, true, true, true, true, true, true, true, true, false, false] rfl rfl (take_ofW HT_.out HW_.out (by kernel_rfl)) (fun _ _ _ h => h) (Or.inl ⟨by rfl, ?_⟩) hHeld ?_ ?_
                   rotate_left
                   ·rintro w' ⟨s0, s1, s2, s3, s4, s5, s6, s7, s8⟩
                    go_simp
                    with_reducible rfl
                   rotate_left
                   ·simp only [Act.put, List.setIfInBounds_toArray, List.set_cons_zero, List.set_cons_succ, i64_w, i32_w]
                    rfl
                   refine pure_ (i := 20) (N := some 77) (v := ?_) (a' := ?_) #[true, true, true, true, true, true, true, true, true, true, true, true, true, true, true, true, true, true, true, true, true, false] rfl rfl (any_of HT_.out (by kernel_rfl)) (fun _ _ _ h => h) (Or.inl ⟨by rfl, ?_⟩) ?_ ?_
                   rotate_left
                   ·intro w'
                    go_simp
                    with_reducible rfl
                   rotate_left
                   ·simp only [Act.put, List.setIfInBounds_toArray, List.set_cons_zero, List.set_cons_succ, i64_w, i32_w]
                    rfl
                   refine pure_ (i := 21) (N := some 78) (v := ?_) (a' := ?_) #[true, true, true, true, true, true, true, true, true, true, true, true, true, true, true, true, true, true, true, true, true, true] rfl rfl (any_of HT_.out (by kernel_rfl)) (fun _ _ _ h => h) (Or.inl ⟨by rfl, ?_⟩) ?_ ?_
                   rotate_left
                   ·intro w'
                    go_simp
                    with_reducible rfl
                   rotate_left
                   ·simp only [Act.put, List.setIfInBounds_toArray, List.set_cons_zero, List.set_cons_succ, i64_w, i32_w]
                    rfl
                   refine done_ (done_of HT_.out (by kernel_rfl)) ?_
                   try go_wp2
                   have n0_ := Aside0.mk (Kd.R_drew HO_8.out)
                   have n1_ := Aside0.mk (Kd.R_drew HO_9.out)
                   have n2_ := Aside0.mk (Kd.R_drew HO_10.out)
                   have n3_ := Aside0.mk (Kd.R_drew HO_11.out)
                   have n4_ := Aside0.mk (Kd.R_drew HO_13.out)
                   have n5_ := Aside0.mk (below_drew1 HB.out)
                   clear HO_8
                   clear HO_9
                   clear HO_10
                   clear HO_11
                   clear HO_13
                   clear HB
                   have HO_8 := n0_
                   have HO_9 := n1_
                   have HO_10 := n2_
                   have HO_11 := n3_
                   have HO_13 := n4_
                   have HB := n5_
                   clear n0_ n1_ n2_ n3_ n4_ n5_
                   have p395 : 0 ≤ ((ji25) : Int) := of_decide_eq_true (by first | (with_reducible assumption) | assumption)
                   have q395 : (ji25) < (t380.length : Int) := of_decide_eq_true (by first | (with_reducible assumption) | assumption)
                   obtain ⟨ad395, e395, hx395_0⟩ := Kd.at_int (Kd.R_reads' HO_8.out).2.2 (ji25) p395 q395
                   obtain rfl : ad389 = ad395 := (by injection e395)
                   replace p395 := eq_true p395
                   replace q395 := eq_true q395
                   have p396 : 0 ≤ ((ji21) : Int) := of_decide_eq_true (by first | (with_reducible assumption) | assumption)
                   have q396 : (ji21) < (x13_2.length : Int) := of_decide_eq_true (by first | (with_reducible assumption) | assumption)
                   obtain ⟨ad396, e396, hx396_0, hx396_1, hx396_2, hx396_3⟩ := at_T26 (Kd.R_reads' HO_13.out).2.2 (ji21) p396 q396
                   obtain rfl : ad392 = ad396 := (by injection e396)
                   replace p396 := eq_true p396
                   replace q396 := eq_true q396
                   have p27 : 0 ≤ ((ji21) : Int) := of_decide_eq_true (by first | (with_reducible assumption) | assumption)
                   have q27 : ((ji21) : Int) < ((x13_2.length : Int) : Int) := of_decide_eq_true (by first | (with_reducible assumption) | assumption)
                   obtain ⟨go27, co27, eo27, gb27, gl27, cl27, HG27⟩ := Kd.R_form HO_13.out (by omega)
                   (first | cases eo27 | (injection eo27 with ea_ en_ ec_; (first | subst ea_ | (injection ea_ with ea_; subst ea_)); subst ec_; clear en_))
                   have GB27 := Aside0.mk gb27
                   have GG27 := Aside0.mk HG27
                   clear gb27 gl27 HG27
                   (first | simp only [add_plain] at hx392_0 | skip)
                   (first | simp only [add_plain] at hx392_1 | skip)
                   (first | simp only [add_plain] at hx392_2 | skip)
                   (first | simp only [add_plain] at hx392_3 | skip)
                   (first | simp only [add_plain] at hx393_0 | skip)
                   (first | simp only [add_plain] at hx393_1 | skip)
                   (first | simp only [add_plain] at hx393_2 | skip)
                   (first | simp only [add_plain] at hx393_3 | skip)
                   (first | simp only [add_plain] at hx396_0 | skip)
                   (first | simp only [add_plain] at hx396_1 | skip)
                   (first | simp only [add_plain] at hx396_2 | skip)
                   (first | simp only [add_plain] at hx396_3 | skip)
                   obtain ⟨ce27, hcl27, hM27, hcc27, hfr27⟩ := Kd.R_elem HO_13.out z26 ((ji21) : Int) p27 q27
                   obtain rfl := k26_openM hM27
                   have hx27_0 : World.cell? _ ⟨go27, ((ji21) : Int).toNat * 4, none⟩ = some (.int .i64 ((rd_T26 x13_2 (ji21)).f0)) := hcc27 0 _ rfl
                   have hx27_1 : World.cell? _ ⟨go27, ((ji21) : Int).toNat * 4 + 1, none⟩ = some (.int .i64 ((rd_T26 x13_2 (ji21)).f1)) := hcc27 1 _ rfl
                   have hx27_2 : World.cell? _ ⟨go27, ((ji21) : Int).toNat * 4 + 2, none⟩ = some (.int .i64 ((rd_T26 x13_2 (ji21)).f2)) := hcc27 2 _ rfl
                   have hx27_3 : World.cell? _ ⟨go27, ((ji21) : Int).toNat * 4 + 3, none⟩ = some (.int .i64 ((rd_T26 x13_2 (ji21)).f3)) := hcc27 3 _ rfl
                   have hf27_0 : World.frozen? _ ⟨go27, ((ji21) : Int).toNat * 4, none⟩ = false := hfr27 0
                   have hf27_1 : World.frozen? _ ⟨go27, ((ji21) : Int).toNat * 4 + 1, none⟩ = false := hfr27 1
                   have hf27_2 : World.frozen? _ ⟨go27, ((ji21) : Int).toNat * 4 + 2, none⟩ = false := hfr27 2
                   have hf27_3 : World.frozen? _ ⟨go27, ((ji21) : Int).toNat * 4 + 3, none⟩ = false := hfr27 3
                   clear hcl27 hcc27 hfr27 hM27
                   replace p27 := eq_true p27
                   replace q27 := eq_true q27
                   obtain ⟨ce34, hcl34, hM34, hcc34, hfr34⟩ := Kd.R_elem HO_13.out z26 ((ji21) : Int) (of_decide_eq_true (by first | (with_reducible assumption) | assumption)) (by have h_ : ((ji21) : Int) < ((x13_2.length : Int) : Int) := of_decide_eq_true (by first | (with_reducible assumption) | assumption); first | exact h_ | (have e_ := (Kd.R_reads' HO_13.out).1; omega) | simpa using h_)
                   obtain rfl := k26_openM hM34
                   have HP34 := (Kd.R_seg HO_13.out ((ji21) : Int) (of_decide_eq_true (by first | (with_reducible assumption) | assumption)) (by have h_ : ((ji21) : Int) < ((x13_2.length : Int) : Int) := of_decide_eq_true (by first | (with_reducible assumption) | assumption); first | exact h_ | (have e_ := (Kd.R_reads' HO_13.out).1; omega) | simpa using h_) (seg := [.int .i64 (wrap64 ((rd t380 (ji25)) - ((rd_T26 x13_2 (ji21)).f0)))]) (j := 2) hcl34 hcc34 (show 3 ≤ 4 from by decide) (x' := (⟨(rd_T26 x13_2 (ji21)).f0, (rd_T26 x13_2 (ji21)).f1, wrap64 ((rd t380 (ji25)) - ((rd_T26 x13_2 (ji21)).f0)), (rd_T26 x13_2 (ji21)).f3⟩ : S26)) (k26_mkM _ _ _ (⟨(rd_T26 x13_2 (ji21)).f0, (rd_T26 x13_2 (ji21)).f1, wrap64 ((rd t380 (ji25)) - ((rd_T26 x13_2 (ji21)).f0)), (rd_T26 x13_2 (ji21)).f3⟩ : S26) ) (fun _ hk => hk)).1
                   rw [← Ny397.out] at HP34
                   have HQ34 := Aside0.mk HP34
                   clear hcl34 hcc34 hfr34 hM34 HP34
                   refine start_ (n := 18) (S := fun w' => w'.cell? (ad389.add ((ji25)).toNat) = some (.int .i64 (rd t380 (ji25))) ∧ w'.cell? ⟨go27, ((ji21)).toNat * 4, none⟩ = some (.int .i64 ((rd_T26 x13_2 (ji21)).f0)) ∧ w'.cell? ⟨go27, ((ji21)).toNat * 4 + 1, none⟩ = some (.int .i64 ((rd_T26 x13_2 (ji21)).f1)) ∧ w'.cell? ⟨go27, ((ji21)).toNat * 4 + 2, none⟩ = some (.int .i64 ((rd_T26 x13_2 (ji21)).f2)) ∧ w'.cell? ⟨go27, ((ji21)).toNat * 4 + 3, none⟩ = some (.int .i64 ((rd_T26 x13_2 (ji21)).f3))) (ds := [17]) #[false, false, false, false, false, false, false, false, false, false, false, false, false, false, false, false, false, false] (by kernel_rfl) rfl rfl ⟨hx395_0, hx396_0, hx396_1, hx396_2, hx396_3⟩ (fun hHeld => ?_); refine with_tabW miradorref15_Combine.tab17 miradorref15_Combine.bits17 (fun HT_ HW_ => ?_)
                   generalize w32.drew = w33 at HO_8 HO_9 HO_10 HO_11 HO_13 HB GG27 HQ34 hf27_0 hf27_1 hf27_2 hf27_3 hx27_0 hx27_1 hx27_2 hx27_3 hx392_0 hx392_1 hx392_2 hx392_3 hx393_0 hx393_1 hx393_2 hx393_3 hx395_0 hx396_0 hx396_1 hx396_2 hx396_3 hHeld ⊢
                   refine pure_ (i := 0) (N := some 79) (v := ?_) (a' := ?_) #[true, false, false, false, false, false, false, false, false, false, false, false, false, false, false, false, false, false] rfl rfl (any_of HT_.out (by kernel_rfl)) (fun _ _ _ h => h) (Or.inl ⟨by rfl, ?_⟩) ?_ ?_
                   rotate_left
                   ·intro w'
                    go_simp
                    with_reducible rfl
                   rotate_left
                   ·simp only [Act.put, List.setIfInBounds_toArray, List.set_cons_zero, List.set_cons_succ, i64_w, i32_w]
                    rfl
                   refine pure_ (i := 1) (N := some 80) (v := ?_) (a' := ?_) #[true, true, false, false, false, false, false, false, false, false, false, false, false, false, false, false, false, false] rfl rfl (any_of HT_.out (by kernel_rfl)) (fun _ _ _ h => h) (Or.inl ⟨by rfl, ?_⟩) ?_ ?_
                   rotate_left
                   ·intro w'
                    go_simp
                    with_reducible rfl
                   rotate_left
                   ·simp only [Act.put, List.setIfInBounds_toArray, List.set_cons_zero, List.set_cons_succ, i64_w, i32_w]
                    rfl
                   refine pure_ (i := 2) (N := some 81) (v := ?_) (a' := ?_) #[true, true, true, false, false, false, false, false, false, false, false, false, false, false, false, false, false, false] rfl rfl (any_of HT_.out (by kernel_rfl)) (fun _ _ _ h => h) (Or.inl ⟨by rfl, ?_⟩) ?_ ?_
                   rotate_left
                   ·intro w'
                    go_simp
                    with_reducible rfl
                   rotate_left
                   ·simp only [Act.put, List.setIfInBounds_toArray, List.set_cons_zero, List.set_cons_succ, i64_w, i32_w]
                    rfl
                   refine pure_ (i := 3) (N := some 82) (v := ?_) (a' := ?_) #[true, true, true, true, false, false, false, false, false, false, false, false, false, false, false, false, false, false] rfl rfl (any_of HT_.out (by kernel_rfl)) (fun _ _ _ h => h) (Or.inl ⟨by rfl, ?_⟩) ?_ ?_
                   rotate_left
                   ·intro w'
                    go_simp
                    with_reducible rfl
                   rotate_left
                   ·simp only [Act.put, List.setIfInBounds_toArray, List.set_cons_zero, List.set_cons_succ, i64_w, i32_w]
                    rfl
                   refine pure_ (i := 4) (N := some 83) (v := ?_) (a' := ?_) #[true, true, true, true, true, false, false, false, false, false, false, false, false, false, false, false, false, false] rfl rfl (any_of HT_.out (by kernel_rfl)) (fun _ _ _ h => h) (Or.inl ⟨by rfl, ?_⟩) ?_ ?_
                   rotate_left
                   ·intro w'
                    go_simp
                    with_reducible rfl
                   rotate_left
                   ·simp only [Act.put, List.setIfInBounds_toArray, List.set_cons_zero, List.set_cons_succ, i64_w, i32_w]
                    rfl
                   refine pure_ (i := 5) (N := some 84) (v := ?_) (a' := ?_) #[true, true, true, true, true, true, false, false, false, false, false, false, false, false, false, false, false, false] rfl rfl (any_of HT_.out (by kernel_rfl)) (fun _ _ _ h => h) (Or.inl ⟨by rfl, ?_⟩) ?_ ?_
                   rotate_left
                   ·intro w'
                    go_simp
                    with_reducible rfl
                   rotate_left
                   ·simp only [Act.put, List.setIfInBounds_toArray, List.set_cons_zero, List.set_cons_succ, i64_w, i32_w]
                    rfl
                   refine pure_ (i := 6) (N := some 85) (v := ?_) (a' := ?_) #[true, true, true, true, true, true, true, false, false, false, false, false, false, false, false, false, false, false] rfl rfl (any_of HT_.out (by kernel_rfl)) (fun _ _ _ h => h) (Or.inl ⟨by rfl, ?_⟩) ?_ ?_
                   rotate_left
                   ·intro w'
                    go_simp
                    with_reducible rfl
                   rotate_left
                   ·simp only [Act.put, List.setIfInBounds_toArray, List.set_cons_zero, List.set_cons_succ, i64_w, i32_w]
                    rfl
                   refine pure_ (i := 8) (N := some 87) (v := ?_) (a' := ?_) #[true, true, true, true, true, true, true, false, true, false, false, false, false, false, false, false, false, false] rfl rfl (any_of HT_.out (by kernel_rfl)) (fun _ _ _ h => h) (Or.inl ⟨by rfl, ?_⟩) ?_ ?_
                   rotate_left
                   ·intro w'
                    go_simp
                    with_reducible rfl
                   rotate_left
                   ·simp only [Act.put, List.setIfInBounds_toArray, List.set_cons_zero, List.set_cons_succ, i64_w, i32_w]
                    rfl
                   refine pure_ (i := 9) (N := some 88) (v := ?_) (a' := ?_) #[true, true, true, true, true, true, true, false, true, true, false, false, false, false, false, false, false, false] rfl rfl (any_of HT_.out (by kernel_rfl)) (fun _ _ _ h => h) (Or.inl ⟨by rfl, ?_⟩) ?_ ?_
                   rotate_left
                   ·intro w'
                    go_simp
                    with_reducible rfl
                   rotate_left
                   ·simp only [Act.put, List.setIfInBounds_toArray, List.set_cons_zero, List.set_cons_succ, i64_w, i32_w]
                    rfl
                   refine pure_ (i := 10) (N := some 89) (v := ?_) (a' := ?_) #[true, true, true, true, true, true, true, false, true, true, true, false, false, false, false, false, false, false] rfl rfl (any_of HT_.out (by kernel_rfl)) (fun _ _ _ h => h) (Or.inl ⟨by rfl, ?_⟩) ?_ ?_
                   rotate_left
                   ·intro w'
                    go_simp
                    with_reducible rfl
                   rotate_left
                   ·simp only [Act.put, List.setIfInBounds_toArray, List.set_cons_zero, List.set_cons_succ, i64_w, i32_w]
                    rfl
                   refine pure_ (i := 11) (N := some 90) (v := ?_) (a' := ?_) #[true, true, true, true, true, true, true, false, true, true, true, true, false, false, false, false, false, false] rfl rfl (any_of HT_.out (by kernel_rfl)) (fun _ _ _ h => h) (Or.inl ⟨by rfl, ?_⟩) ?_ ?_
                   rotate_left
                   ·intro w'
                    go_simp
                    with_reducible rfl
                   rotate_left
                   ·simp only [Act.put, List.setIfInBounds_toArray, List.set_cons_zero, List.set_cons_succ, i64_w, i32_w]
                    rfl
                   refine pure_ (i := 12) (N := some 91) (v := ?_) (a' := ?_) #[true, true, true, true, true, true, true, false, true, true, true, true, true, false, false, false, false, false] rfl rfl (any_of HT_.out (by kernel_rfl)) (fun _ _ _ h => h) (Or.inl ⟨by rfl, ?_⟩) ?_ ?_
                   rotate_left
                   ·intro w'
                    go_simp
                    with_reducible rfl
                   rotate_left
                   ·simp only [Act.put, List.setIfInBounds_toArray, List.set_cons_zero, List.set_cons_succ, i64_w, i32_w]
                    rfl
                   refine take_ (i := 7) (N := some 86) (v := ?_) (a' := ?_) #[true, true, true, true, true, true, true, true, true, true, true, true, true, false, false, false, false, false] rfl rfl (take_ofW HT_.out HW_.out (by kernel_rfl)) (fun _ _ _ h => h) (Or.inl ⟨by rfl, ?_⟩) hHeld ?_ ?_
                   rotate_left
                   ·rintro w' ⟨s0, s1, s2, s3, s4⟩
                    go_simp
                    with_reducible rfl
                   rotate_left
                   ·simp only [Act.put, List.setIfInBounds_toArray, List.set_cons_zero, List.set_cons_succ, i64_w, i32_w]
                    rfl
                   refine take_ (i := 13) (N := some 92) (v := ?_) (a' := ?_) #[true, true, true, true, true, true, true, true, true, true, true, true, true, true, false, false, false, false] rfl rfl (take_ofW HT_.out HW_.out (by kernel_rfl)) (fun _ _ _ h => h) (Or.inl ⟨by rfl, ?_⟩) hHeld ?_ ?_
                   rotate_left
                   ·rintro w' ⟨s0, s1, s2, s3, s4⟩
                    go_simp
                    with_reducible rfl
                   rotate_left
                   ·simp only [Act.put, List.setIfInBounds_toArray, List.set_cons_zero, List.set_cons_succ, i64_w, i32_w]
                    rfl
                   refine pure_ (i := 14) (N := some 93) (v := ?_) (a' := ?_) #[true, true, true, true, true, true, true, true, true, true, true, true, true, true, true, false, false, false] rfl rfl (any_of HT_.out (by kernel_rfl)) (fun _ _ _ h => h) (Or.inl ⟨by rfl, ?_⟩) ?_ ?_
                   rotate_left
                   ·intro w'
                    go_simp
                    with_reducible rfl
                   rotate_left
                   ·simp only [Act.put, List.setIfInBounds_toArray, List.set_cons_zero, List.set_cons_succ, i64_w, i32_w]
                    rfl
                   refine pure_ (i := 15) (N := some 94) (v := ?_) (a' := ?_) #[true, true, true, true, true, true, true, true, true, true, true, true, true, true, true, true, false, false] rfl rfl (any_of HT_.out (by kernel_rfl)) (fun _ _ _ h => h) (Or.inl ⟨by rfl, ?_⟩) ?_ ?_
                   rotate_left
                   ·intro w'
                    go_simp
                    with_reducible rfl
                   rotate_left
                   ·simp only [Act.put, List.setIfInBounds_toArray, List.set_cons_zero, List.set_cons_succ, i64_w, i32_w]
                    rfl
                   refine pure_ (i := 16) (N := some 95) (v := ?_) (a' := ?_) #[true, true, true, true, true, true, true, true, true, true, true, true, true, true, true, true, true, false] rfl rfl (any_of HT_.out (by kernel_rfl)) (fun _ _ _ h => h) (Or.inl ⟨by rfl, ?_⟩) ?_ ?_
                   rotate_left
                   ·intro w'
                    go_simp
                    with_reducible rfl
                   rotate_left
                   ·simp only [Act.put, List.setIfInBounds_toArray, List.set_cons_zero, List.set_cons_succ, i64_w, i32_w]
                    rfl
                   refine last_ (i := 17) (N := none) #[true, true, true, true, true, true, true, true, true, true, true, true, true, true, true, true, true, true] rfl rfl (one_of HT_.out (by kernel_rfl)) (by decide) (fun K hK => ?_)
                   refine skip_ (w1 := ?_) (by rfl) rfl ?_ ?_
                   rotate_left
                   ·go_simp
                    rfl
                   refine hK.out _ _ ?_
                   clear hK K
                   refine done_ (done_of HT_.out (by kernel_rfl)) ?_
                   try go_wp2
                   go_roundg k2
                   case measure => have := HK1.out; have := HK2.out; omega
                   case rel => exact ⟨(x10_2), (x11_2), (y397), (ji25), (by first | rfl | (simp; done) | (simp only [← hji25] <;> (first | rfl | simp)) | (simp [*]; done)), H', ⟨by have := HK1.out; have := HK2.out; omega⟩, ⟨by (with_reducible repeat (first | apply Kd.R_alloc | apply Kd.R_drewN | apply Kd.R_drew)); exact Kd.R_mono (Kd.R_far (p := ⟨go27, ((ji21) : Int).toNat * 4 + 2, none⟩) (Kd.R_types HO_8.out GG27.out (by decide)) (fun _ hk => hk.2) (.int .i64 (wrap64 ((rd t380 (ji25)) - ((rd_T26 x13_2 (ji21)).f0))))) (fun _ hk => hk.1)⟩, ⟨by (with_reducible repeat (first | apply Kd.R_alloc | apply Kd.R_drewN | apply Kd.R_drew)); exact Kd.R_mono (Kd.R_far (p := ⟨go27, ((ji21) : Int).toNat * 4 + 2, none⟩) (Kd.R_types HO_9.out GG27.out (by decide)) (fun _ hk => hk.2) (.int .i64 (wrap64 ((rd t380 (ji25)) - ((rd_T26 x13_2 (ji21)).f0))))) (fun _ hk => hk.1)⟩, ⟨by (with_reducible repeat (first | apply Kd.R_alloc | apply Kd.R_drewN | apply Kd.R_drew)); exact Kd.R_mono (Kd.R_far (p := ⟨go27, ((ji21) : Int).toNat * 4 + 2, none⟩) (Kd.R_mono HO_10.out (fun k_ hk => (⟨hk, fun e_ => hk.2 (by rw [e_]; rfl)⟩ : _ ∧ k_ ≠ go27))) (fun _ hk => hk.2) (.int .i64 (wrap64 ((rd t380 (ji25)) - ((rd_T26 x13_2 (ji21)).f0))))) (fun _ hk => ⟨hk.1.1, hk.1.2⟩)⟩, ⟨by (with_reducible repeat (first | apply Kd.R_alloc | apply Kd.R_drewN | apply Kd.R_drew)); exact Kd.R_mono (Kd.R_far (p := ⟨go27, ((ji21) : Int).toNat * 4 + 2, none⟩) (Kd.R_mono HO_11.out (fun k_ hk => (⟨hk, fun e_ => hk.2 (by rw [e_]; rfl)⟩ : _ ∧ k_ ≠ go27))) (fun _ hk => hk.2) (.int .i64 (wrap64 ((rd t380 (ji25)) - ((rd_T26 x13_2 (ji21)).f0))))) (fun _ hk => ⟨hk.1.1, hk.1.2⟩)⟩, ⟨by (with_reducible repeat (first | apply Kd.R_alloc | apply Kd.R_drewN | apply Kd.R_drew)); exact HQ34.out⟩, ⟨by repeat (first | (with_reducible first | exact HB.out | apply below_alloc | apply pw_below_drewN | apply below_drew1 | refine below_set ?_ GB27.out) | exact HB.out)⟩⟩
                  ·rw [if_neg c26] at H
                   exact absurd H (by simp)
                 ·rw [if_neg c24] at H
                  have c24b0 : ((wrap64 (((rd_T26 x13_2 (ji21)).f0) + ((rd_T26 x13_2 (ji21)).f2))) == (rd t380 x14_2)) = false := beq_eq_false_iff_ne.mpr c24
                  have c24b1 : ((wrap64 (((rd_T26 x13_2 (ji21)).f0) + ((rd_T26 x13_2 (ji21)).f2))) != (rd t380 x14_2)) = true := bne_iff_ne.mpr c24
                  obtain ⟨ji35, hji35⟩ : ∃ j_ : Int, (wrap64 (x14_2 + 1)) = j_ := ⟨_, rfl⟩
                  replace H : (if 0 ≤ (ji35) then (if 0 ≤ (wrap64 (x12_1 + 1)) then (if (wrap64 (x12_1 + 1)) < (t381.length : Int) then (if x13_2.length < 4398046511104 then (miradorref15_Combine.l1 k2 a0 l1 l2 t380 t381 x10_2 x11_2 x12_1 (x13_2 ++ [(⟨rd t380 x14_2, rd t381 x12_1, wrap64 ((rd t380 (ji35)) - (rd t380 x14_2)), wrap64 ((rd t381 (wrap64 (x12_1 + 1))) - (rd t381 x12_1))⟩ : S26)]) ji35) else (none)) else (none)) else (none)) else (none)) = some r := by first | (rw [hji35] at H; exact H) | (simp only [hji35] at H ⊢; exact H)
                  (try rw [hji35] at c13b0)
                  (try rw [hji35] at A18)
                  have hji35w : (IntKind.i64.wrap (x14_2 + 1)) = ji35 := (i64_w _).trans hji35
                  by_cases c36 : 0 ≤ (ji35)
                  ·rw [if_pos c36] at H
                   have c36b0 : decide (0 ≤ (ji35)) = true := decide_eq_true c36
                   clear c36
                   obtain ⟨ji37, hji37⟩ : ∃ j_ : Int, (wrap64 (x12_1 + 1)) = j_ := ⟨_, rfl⟩
                   replace H : (if 0 ≤ (ji37) then (if (ji37) < (t381.length : Int) then (if x13_2.length < 4398046511104 then (miradorref15_Combine.l1 k2 a0 l1 l2 t380 t381 x10_2 x11_2 x12_1 (x13_2 ++ [(⟨rd t380 x14_2, rd t381 x12_1, wrap64 ((rd t380 (ji35)) - (rd t380 x14_2)), wrap64 ((rd t381 (ji37)) - (rd t381 x12_1))⟩ : S26)]) ji35) else (none)) else (none)) else (none)) = some r := by first | (rw [hji37] at H; exact H) | (simp only [hji37] at H ⊢; exact H)
                   (try rw [hji37] at c11b0)
                   (try rw [hji37] at A18)
                   have hji37w : (IntKind.i64.wrap (x12_1 + 1)) = ji37 := (i64_w _).trans hji37
                   by_cases c38 : 0 ≤ (ji37)
                   ·rw [if_pos c38] at H
                    have c38b0 : decide (0 ≤ (ji37)) = true := decide_eq_true c38
                    clear c38
                    by_cases c39 : (ji37) < (t381.length : Int)
                    ·rw [if_pos c39] at H
                     have c39b0 : decide ((ji37) < (t381.length : Int)) = true := decide_eq_true c39
                     clear c39
                     by_cases c40 : x13_2.length < 4398046511104
                     ·rw [if_pos c40] at H
                      have LMc40 := Aside0.mk c40
                      clear c40
                      obtain ⟨y404, hy404⟩ : ∃ y_ : List (S26), y_ = (x13_2 ++ [(⟨rd t380 x14_2, rd t381 x12_1, wrap64 ((rd t380 (ji35)) - (rd t380 x14_2)), wrap64 ((rd t381 (ji37)) - (rd t381 x12_1))⟩ : S26)]) := ⟨_, rfl⟩
                      replace H : (miradorref15_Combine.l1 k2 a0 l1 l2 t380 t381 x10_2 x11_2 x12_1 y404 ji35) = some r := by first | (rw [hy404]; with_reducible exact H) | (have H2_ := (Option.bind_some _ _).symm.trans H; rw [hy404]; with_reducible exact H2_) | (have H2_ := (Option.bind_some _ _).symm.trans H; with_reducible exact H2_) | with_reducible exact H | (rw [hy404]; exact H) | exact H
                      have Ny404 := Aside0.mk hy404
                      clear hy404
                      have H' := Aside0.mk H
                      clear H
                      obtain ⟨Ao41, co41, eo41⟩ := Kd.R_slice HO_8.out
                      subst eo41
                      try go_wp2
                      have n0_ := Aside0.mk (Kd.R_drew HO_8.out)
                      have n1_ := Aside0.mk (Kd.R_drew HO_9.out)
                      have n2_ := Aside0.mk (Kd.R_drew HO_10.out)
                      have n3_ := Aside0.mk (Kd.R_drew HO_11.out)
                      have n4_ := Aside0.mk (Kd.R_drew HO_13.out)
                      have n5_ := Aside0.mk (below_drew1 HB.out)
                      clear HO_8
                      clear HO_9
                      clear HO_10
                      clear HO_11
                      clear HO_13
                      clear HB
                      have HO_8 := n0_
                      have HO_9 := n1_
                      have HO_10 := n2_
                      have HO_11 := n3_
                      have HO_13 := n4_
                      have HB := n5_
                      clear n0_ n1_ n2_ n3_ n4_ n5_
                      have p389 : 0 ≤ (x14_2 : Int) := of_decide_eq_true (by first | (with_reducible assumption) | assumption)
                      have q389 : x14_2 < (t380.length : Int) := of_decide_eq_true (by first | (with_reducible assumption) | assumption)
                      obtain ⟨ad389, e389, hx389_0⟩ := Kd.at_int (Kd.R_reads' HO_8.out).2.2 x14_2 p389 q389
                      cases e389
                      replace p389 := eq_true p389
                      replace q389 := eq_true q389
                      have p390 : 0 ≤ (x12_1 : Int) := of_decide_eq_true (by first | (with_reducible assumption) | assumption)
                      have q390 : x12_1 < (t381.length : Int) := of_decide_eq_true (by first | (with_reducible assumption) | assumption)
                      obtain ⟨ad390, e390, hx390_0⟩ := Kd.at_int (Kd.R_reads' HO_9.out).2.2 x12_1 p390 q390
                      cases e390
                      replace p390 := eq_true p390
                      replace q390 := eq_true q390
                      refine start_ (n := 13) (S := fun w' => w'.cell? (ad389.add (x14_2).toNat) = some (.int .i64 (rd t380 x14_2)) ∧ w'.cell? (ad390.add (x12_1).toNat) = some (.int .i64 (rd t381 x12_1))) (ds := []) #[false, false, false, false, false, false, false, false, false, false, false, false, false] (by kernel_rfl) rfl rfl ⟨hx389_0, hx390_0⟩ (fun hHeld => ?_); refine with_tabW miradorref15_Combine.tab14 miradorref15_Combine.bits14 (fun HT_ HW_ => ?_)
                      generalize wr.drew = w42 at HO_8 HO_9 HO_10 HO_11 HO_13 HB hx389_0 hx390_0 hHeld ⊢
                      refine pure_ (i := 0) (N := some 42) (v := ?_) (a' := ?_) #[true, false, false, false, false, false, false, false, false, false, false, false, false] rfl rfl (any_of HT_.out (by kernel_rfl)) (fun _ _ _ h => h) (Or.inl ⟨by rfl, ?_⟩) ?_ ?_
                      rotate_left
                      ·intro w'
                       go_simp
                       with_reducible rfl
                      rotate_left
                      ·simp only [Act.put, List.setIfInBounds_toArray, List.set_cons_zero, List.set_cons_succ, i64_w, i32_w]
                       rfl
                      refine pure_ (i := 1) (N := some 43) (v := ?_) (a' := ?_) #[true, true, false, false, false, false, false, false, false, false, false, false, false] rfl rfl (any_of HT_.out (by kernel_rfl)) (fun _ _ _ h => h) (Or.inl ⟨by rfl, ?_⟩) ?_ ?_
                      rotate_left
                      ·intro w'
                       go_simp
                       with_reducible rfl
                      rotate_left
                      ·simp only [Act.put, List.setIfInBounds_toArray, List.set_cons_zero, List.set_cons_succ, i64_w, i32_w]
                       rfl
                      refine pure_ (i := 2) (N := some 44) (v := ?_) (a' := ?_) #[true, true, true, false, false, false, false, false, false, false, false, false, false] rfl rfl (any_of HT_.out (by kernel_rfl)) (fun _ _ _ h => h) (Or.inl ⟨by rfl, ?_⟩) ?_ ?_
                      rotate_left
                      ·intro w'
                       go_simp
                       with_reducible rfl
                      rotate_left
                      ·simp only [Act.put, List.setIfInBounds_toArray, List.set_cons_zero, List.set_cons_succ, i64_w, i32_w]
                       rfl
                      refine pure_ (i := 3) (N := some 45) (v := ?_) (a' := ?_) #[true, true, true, true, false, false, false, false, false, false, false, false, false] rfl rfl (any_of HT_.out (by kernel_rfl)) (fun _ _ _ h => h) (Or.inl ⟨by rfl, ?_⟩) ?_ ?_
                      rotate_left
                      ·intro w'
                       go_simp
                       with_reducible rfl
                      rotate_left
                      ·simp only [Act.put, List.setIfInBounds_toArray, List.set_cons_zero, List.set_cons_succ, i64_w, i32_w]
                       rfl
                      refine pure_ (i := 4) (N := some 46) (v := ?_) (a' := ?_) #[true, true, true, true, true, false, false, false, false, false, false, false, false] rfl rfl (any_of HT_.out (by kernel_rfl)) (fun _ _ _ h => h) (Or.inl ⟨by rfl, ?_⟩) ?_ ?_
                      rotate_left
                      ·intro w'
                       go_simp
                       with_reducible rfl
                      rotate_left
                      ·simp only [Act.put, List.setIfInBounds_toArray, List.set_cons_zero, List.set_cons_succ, i64_w, i32_w]
                       rfl
                      refine pure_ (i := 5) (N := some 47) (v := ?_) (a' := ?_) #[true, true, true, true, true, true, false, false, false, false, false, false, false] rfl rfl (any_of HT_.out (by kernel_rfl)) (fun _ _ _ h => h) (Or.inl ⟨by rfl, ?_⟩) ?_ ?_
                      rotate_left
                      ·intro w'
                       go_simp
                       with_reducible rfl
                      rotate_left
                      ·simp only [Act.put, List.setIfInBounds_toArray, List.set_cons_zero, List.set_cons_succ, i64_w, i32_w]
                       rfl
                      refine pure_ (i := 7) (N := some 49) (v := ?_) (a' := ?_) #[true, true, true, true, true, true, false, true, false, false, false, false, false] rfl rfl (any_of HT_.out (by kernel_rfl)) (fun _ _ _ h => h) (Or.inl ⟨by rfl, ?_⟩) ?_ ?_
                      rotate_left
                      ·intro w'
                       go_simp
                       with_reducible rfl
                      rotate_left
                      ·simp only [Act.put, List.setIfInBounds_toArray, List.set_cons_zero, List.set_cons_succ, i64_w, i32_w]
                       rfl
                      refine pure_ (i := 8) (N := some 50) (v := ?_) (a' := ?_) #[true, true, true, true, true, true, false, true, true, false, false, false, false] rfl rfl (any_of HT_.out (by kernel_rfl)) (fun _ _ _ h => h) (Or.inl ⟨by rfl, ?_⟩) ?_ ?_
                      rotate_left
                      ·intro w'
                       go_simp
                       with_reducible rfl
                      rotate_left
                      ·simp only [Act.put, List.setIfInBounds_toArray, List.set_cons_zero, List.set_cons_succ, i64_w, i32_w]
                       rfl
                      refine pure_ (i := 9) (N := some 51) (v := ?_) (a' := ?_) #[true, true, true, true, true, true, false, true, true, true, false, false, false] rfl rfl (any_of HT_.out (by kernel_rfl)) (fun _ _ _ h => h) (Or.inl ⟨by rfl, ?_⟩) ?_ ?_
                      rotate_left
                      ·intro w'
                       go_simp
                       with_reducible rfl
                      rotate_left
                      ·simp only [Act.put, List.setIfInBounds_toArray, List.set_cons_zero, List.set_cons_succ, i64_w, i32_w]
                       rfl
                      refine take_ (i := 6) (N := some 48) (v := ?_) (a' := ?_) #[true, true, true, true, true, true, true, true, true, true, false, false, false] rfl rfl (take_ofW HT_.out HW_.out (by kernel_rfl)) (fun _ _ _ h => h) (Or.inl ⟨by rfl, ?_⟩) hHeld ?_ ?_
                      rotate_left
                      ·rintro w' ⟨s0, s1⟩
                       go_simp
                       with_reducible rfl
                      rotate_left
                      ·simp only [Act.put, List.setIfInBounds_toArray, List.set_cons_zero, List.set_cons_succ, i64_w, i32_w]
                       rfl
                      refine take_ (i := 10) (N := some 52) (v := ?_) (a' := ?_) #[true, true, true, true, true, true, true, true, true, true, true, false, false] rfl rfl (take_ofW HT_.out HW_.out (by kernel_rfl)) (fun _ _ _ h => h) (Or.inl ⟨by rfl, ?_⟩) hHeld ?_ ?_
                      rotate_left
                      ·rintro w' ⟨s0, s1⟩
                       go_simp
                       with_reducible rfl
                      rotate_left
                      ·simp only [Act.put, List.setIfInBounds_toArray, List.set_cons_zero, List.set_cons_succ, i64_w, i32_w]
                       rfl
                      refine one_ (i := 11) (N := some 53) #[true, true, true, true, true, true, true, true, true, true, true, true, false] rfl rfl (one_of HT_.out (by kernel_rfl)) (by decide) (fun K hK => ?_)
                      refine goes_ Try.func28 (by kernel_rfl) rfl #[.int .i64 a0, .slice A1 l1.length c1, .slice A2 l2.length c2, .int .i64 (rd t380 x14_2), .int .i64 (rd t381 x12_1)] (by rfl) rfl rfl (by (try simp only [List.map_toArray, List.map_cons, List.map_nil]); first | done | rfl | (simp only [List.length_drop, List.length_take]; rfl)) ?_
                      with_reducible refine (miradorref15_in.calls k2 a0 _ _ l1 _ _ l2 (rd t380 x14_2) (rd t381 x12_1) true _ ?side1 ?side2 ?side3 ?side4 A18.out).mono ?_
                      (case side1 => repeat (first | exact (Kd.C_below HR1.out HB.out) | (with_reducible refine Kd.C_alloc ?_ _) | (with_reducible refine Kd.C_drewN ?_ _) | (with_reducible refine Kd.C_drew ?_)))
                      (case side2 => exact HC1.out)
                      (case side3 => repeat (first | exact (Kd.C_below HR2.out HB.out) | (with_reducible refine Kd.C_alloc ?_ _) | (with_reducible refine Kd.C_drewN ?_ _) | (with_reducible refine Kd.C_drew ?_)))
                      (case side4 => exact HC2.out)
                      rintro e w43 ⟨rfl, hb⟩
                      have HS0_ := (hb.cell (World.block_lt_of_cell? _ _ (hHeld.1))).trans (hHeld.1)
                      have HS1_ := (hb.cell (World.block_lt_of_cell? _ _ (hHeld.2))).trans (hHeld.2)
                      refine ⟨_, rfl, ?_⟩
                      have n0_ := Aside0.mk (Kd.R_below (by (with_reducible repeat (first | apply Kd.R_alloc | apply Kd.R_drewN | apply Kd.R_drew)); exact HO_8.out) hb)
                      have n1_ := Aside0.mk (Kd.R_below (by (with_reducible repeat (first | apply Kd.R_alloc | apply Kd.R_drewN | apply Kd.R_drew)); exact HO_9.out) hb)
                      have n2_ := Aside0.mk (Kd.R_below (by (with_reducible repeat (first | apply Kd.R_alloc | apply Kd.R_drewN | apply Kd.R_drew)); exact HO_10.out) hb)
                      have n3_ := Aside0.mk (Kd.R_below (by (with_reducible repeat (first | apply Kd.R_alloc | apply Kd.R_drewN | apply Kd.R_drew)); exact HO_11.out) hb)
                      have n4_ := Aside0.mk (Kd.R_below (by (with_reducible repeat (first | apply Kd.R_alloc | apply Kd.R_drewN | apply Kd.R_drew)); exact HO_13.out) hb)
                      have n5_ := Aside0.mk (below_step (by repeat (first | (with_reducible first | exact HB.out | apply below_alloc | apply pw_below_drewN | apply below_drew1) | exact HB.out)) hb)
                      clear HO_8
                      clear HO_9
                      clear HO_10
                      clear HO_11
                      clear HO_13
                      clear HB
                      have HO_8 := n0_
                      have HO_9 := n1_
                      have HO_10 := n2_
                      have HO_11 := n3_
                      have HO_13 := n4_
                      have HB := n5_
                      clear n0_ n1_ n2_ n3_ n4_ n5_
                      (try clear hb)
                      (try clear hb2)
                      (try clear hk)
                      (try clear hi)
                      refine hK.out _ _ ⟨HS0_, HS1_⟩ (fun hHeld => ?_)
                      clear hK K
                      refine norm_ (a' := ?_) ?_ ?_
                      rotate_left
                      ·show Act.put _ (some 53) _ = _
                       simp only [Act.put, List.setIfInBounds_toArray, List.set_cons_zero, List.set_cons_succ, i64_w, i32_w]
                       rfl
                      refine pure_ (i := 12) (N := some 54) (v := ?_) (a' := ?_) #[true, true, true, true, true, true, true, true, true, true, true, true, true] rfl rfl (any_of HT_.out (by kernel_rfl)) (fun _ _ _ h => h) (Or.inl ⟨by rfl, ?_⟩) ?_ ?_
                      rotate_left
                      ·intro w'
                       go_simp
                       with_reducible rfl
                      rotate_left
                      ·simp only [Act.put, List.setIfInBounds_toArray, List.set_cons_zero, List.set_cons_succ, i64_w, i32_w]
                       rfl
                      refine done_ (done_of HT_.out (by kernel_rfl)) ?_
                      obtain ⟨Ao44, co44, eo44⟩ := Kd.R_slice HO_13.out
                      subst eo44
                      try go_wp2
                      have n0_ := Aside0.mk (Kd.R_drew HO_8.out)
                      have n1_ := Aside0.mk (Kd.R_drew HO_9.out)
                      have n2_ := Aside0.mk (Kd.R_drew HO_10.out)
                      have n3_ := Aside0.mk (Kd.R_drew HO_11.out)
                      have n4_ := Aside0.mk (Kd.R_drew HO_13.out)
                      have n5_ := Aside0.mk (below_drew1 HB.out)
                      clear HO_8
                      clear HO_9
                      clear HO_10
                      clear HO_11
                      clear HO_13
                      clear HB
                      have HO_8 := n0_
                      have HO_9 := n1_
                      have HO_10 := n2_
                      have HO_11 := n3_
                      have HO_13 := n4_
                      have HB := n5_
                      clear n0_ n1_ n2_ n3_ n4_ n5_
                      have p392 : 0 ≤ ((ji21) : Int) := of_decide_eq_true (by first | (with_reducible assumption) | assumption)
                      have q392 : (ji21) < (x13_2.length : Int) := of_decide_eq_true (by first | (with_reducible assumption) | assumption)
                      obtain ⟨ad392, e392, hx392_0, hx392_1, hx392_2, hx392_3⟩ := at_T26 (Kd.R_reads' HO_13.out).2.2 (ji21) p392 q392
                      cases e392
                      replace p392 := eq_true p392
                      replace q392 := eq_true q392
                      have p393 : 0 ≤ ((ji21) : Int) := of_decide_eq_true (by first | (with_reducible assumption) | assumption)
                      have q393 : (ji21) < (x13_2.length : Int) := of_decide_eq_true (by first | (with_reducible assumption) | assumption)
                      obtain ⟨ad393, e393, hx393_0, hx393_1, hx393_2, hx393_3⟩ := at_T26 (Kd.R_reads' HO_13.out).2.2 (ji21) p393 q393
                      obtain rfl : ad392 = ad393 := (by injection e393)
                      replace p393 := eq_true p393
                      replace q393 := eq_true q393
                      have p394 : 0 ≤ (x14_2 : Int) := of_decide_eq_true (by first | (with_reducible assumption) | assumption)
                      have q394 : x14_2 < (t380.length : Int) := of_decide_eq_true (by first | (with_reducible assumption) | assumption)
                      obtain ⟨ad394, e394, hx394_0⟩ := Kd.at_int (Kd.R_reads' HO_8.out).2.2 x14_2 p394 q394
                      obtain rfl : ad389 = ad394 := (by injection e394)
                      replace p394 := eq_true p394
                      replace q394 := eq_true q394
                      refine start_ (n := 22) (S := fun w' => w'.cell? (ad392.add (((ji21)).toNat * 4)) = some (.int .i64 ((rd_T26 x13_2 (ji21)).f0)) ∧ w'.cell? ⟨(ad392.add (((ji21)).toNat * 4)).block, (ad392.add (((ji21)).toNat * 4)).off + 1, none⟩ = some (.int .i64 ((rd_T26 x13_2 (ji21)).f1)) ∧ w'.cell? ⟨(ad392.add (((ji21)).toNat * 4)).block, (ad392.add (((ji21)).toNat * 4)).off + 2, none⟩ = some (.int .i64 ((rd_T26 x13_2 (ji21)).f2)) ∧ w'.cell? ⟨(ad392.add (((ji21)).toNat * 4)).block, (ad392.add (((ji21)).toNat * 4)).off + 3, none⟩ = some (.int .i64 ((rd_T26 x13_2 (ji21)).f3)) ∧ w'.cell? (ad392.add (((ji21)).toNat * 4)) = some (.int .i64 ((rd_T26 x13_2 (ji21)).f0)) ∧ w'.cell? ⟨(ad392.add (((ji21)).toNat * 4)).block, (ad392.add (((ji21)).toNat * 4)).off + 1, none⟩ = some (.int .i64 ((rd_T26 x13_2 (ji21)).f1)) ∧ w'.cell? ⟨(ad392.add (((ji21)).toNat * 4)).block, (ad392.add (((ji21)).toNat * 4)).off + 2, none⟩ = some (.int .i64 ((rd_T26 x13_2 (ji21)).f2)) ∧ w'.cell? ⟨(ad392.add (((ji21)).toNat * 4)).block, (ad392.add (((ji21)).toNat * 4)).off + 3, none⟩ = some (.int .i64 ((rd_T26 x13_2 (ji21)).f3)) ∧ w'.cell? (ad389.add (x14_2).toNat) = some (.int .i64 (rd t380 x14_2))) (ds := []) #[false, false, false, false, false, false, false, false, false, false, false, false, false, false, false, false, false, false, false, false, false, false] (by kernel_rfl) rfl rfl ⟨hx392_0, hx392_1, hx392_2, hx392_3, hx393_0, hx393_1, hx393_2, hx393_3, hx394_0⟩ (fun hHeld => ?_); refine with_tabW miradorref15_Combine.tab16 miradorref15_Combine.bits16 (fun HT_ HW_ => ?_)
                      generalize w43.drew = w45 at HO_8 HO_9 HO_10 HO_11 HO_13 HB hx392_0 hx392_1 hx392_2 hx392_3 hx393_0 hx393_1 hx393_2 hx393_3 hx394_0 hHeld ⊢
                      refine pure_ (i := 0) (N := some 57) (v := ?_) (a' := ?_) #[true, false, false, false, false, false, false, false, false, false, false, false, false, false, false, false, false, false, false, false, false, false] rfl rfl (any_of HT_.out (by kernel_rfl)) (fun _ _ _ h => h) (Or.inl ⟨by rfl, ?_⟩) ?_ ?_
                      rotate_left
                      ·intro w'
                       go_simp
                       with_reducible rfl
                      rotate_left
                      ·simp only [Act.put, List.setIfInBounds_toArray, List.set_cons_zero, List.set_cons_succ, i64_w, i32_w]
                       rfl
                      refine pure_ (i := 1) (N := some 58) (v := ?_) (a' := ?_) #[true, true, false, false, false, false, false, false, false, false, false, false, false, false, false, false, false, false, false, false, false, false] rfl rfl (any_of HT_.out (by kernel_rfl)) (fun _ _ _ h => h) (Or.inl ⟨by rfl, ?_⟩) ?_ ?_
                      rotate_left
                      ·intro w'
                       go_simp
                       with_reducible rfl
                      rotate_left
                      ·simp only [Act.put, List.setIfInBounds_toArray, List.set_cons_zero, List.set_cons_succ, i64_w, i32_w]
                       rfl
                      refine pure_ (i := 2) (N := some 59) (v := ?_) (a' := ?_) #[true, true, true, false, false, false, false, false, false, false, false, false, false, false, false, false, false, false, false, false, false, false] rfl rfl (any_of HT_.out (by kernel_rfl)) (fun _ _ _ h => h) (Or.inl ⟨by rfl, ?_⟩) ?_ ?_
                      rotate_left
                      ·intro w'
                       go_simp
                       with_reducible rfl
                      rotate_left
                      ·simp only [Act.put, List.setIfInBounds_toArray, List.set_cons_zero, List.set_cons_succ, i64_w, i32_w]
                       rfl
                      refine pure_ (i := 3) (N := some 60) (v := ?_) (a' := ?_) #[true, true, true, true, false, false, false, false, false, false, false, false, false, false, false, false, false, false, false, false, false, false] rfl rfl (any_of HT_.out (by kernel_rfl)) (fun _ _ _ h => h) (Or.inl ⟨by rfl, ?_⟩) ?_ ?_
                      rotate_left
                      ·intro w'
                       go_simp
                       with_reducible rfl
                      rotate_left
                      ·simp only [Act.put, List.setIfInBounds_toArray, List.set_cons_zero, List.set_cons_succ, i64_w, i32_w]
                       rfl
                      refine pure_ (i := 4) (N := some 61) (v := ?_) (a' := ?_) #[true, true, true, true, true, false, false, false, false, false, false, false, false, false, false, false, false, false, false, false, false, false] rfl rfl (any_of HT_.out (by kernel_rfl)) (fun _ _ _ h => h) (Or.inl ⟨by rfl, ?_⟩) ?_ ?_
                      rotate_left
                      ·intro w'
                       go_simp
                       with_reducible rfl
                      rotate_left
                      ·simp only [Act.put, List.setIfInBounds_toArray, List.set_cons_zero, List.set_cons_succ, i64_w, i32_w]
                       rfl
                      refine pure_ (i := 5) (N := some 62) (v := ?_) (a' := ?_) #[true, true, true, true, true, true, false, false, false, false, false, false, false, false, false, false, false, false, false, false, false, false] rfl rfl (any_of HT_.out (by kernel_rfl)) (fun _ _ _ h => h) (Or.inl ⟨by rfl, ?_⟩) ?_ ?_
                      rotate_left
                      ·intro w'
                       go_simp
                       with_reducible rfl
                      rotate_left
                      ·simp only [Act.put, List.setIfInBounds_toArray, List.set_cons_zero, List.set_cons_succ, i64_w, i32_w]
                       rfl
                      refine pure_ (i := 6) (N := some 63) (v := ?_) (a' := ?_) #[true, true, true, true, true, true, true, false, false, false, false, false, false, false, false, false, false, false, false, false, false, false] rfl rfl (any_of HT_.out (by kernel_rfl)) (fun _ _ _ h => h) (Or.inl ⟨by rfl, ?_⟩) ?_ ?_
                      rotate_left
                      ·intro w'
                       go_simp
                       with_reducible rfl
                      rotate_left
                      ·simp only [Act.put, List.setIfInBounds_toArray, List.set_cons_zero, List.set_cons_succ, i64_w, i32_w]
                       rfl
                      refine pure_ (i := 7) (N := some 64) (v := ?_) (a' := ?_) #[true, true, true, true, true, true, true, true, false, false, false, false, false, false, false, false, false, false, false, false, false, false] rfl rfl (any_of HT_.out (by kernel_rfl)) (fun _ _ _ h => h) (Or.inl ⟨by rfl, ?_⟩) ?_ ?_
                      rotate_left
                      ·intro w'
                       go_simp
                       with_reducible rfl
                      rotate_left
                      ·simp only [Act.put, List.setIfInBounds_toArray, List.set_cons_zero, List.set_cons_succ, i64_w, i32_w]
                       rfl
                      refine pure_ (i := 9) (N := some 66) (v := ?_) (a' := ?_) #[true, true, true, true, true, true, true, true, false, true, false, false, false, false, false, false, false, false, false, false, false, false] rfl rfl (any_of HT_.out (by kernel_rfl)) (fun _ _ _ h => h) (Or.inl ⟨by rfl, ?_⟩) ?_ ?_
                      rotate_left
                      ·intro w'
                       go_simp
                       with_reducible rfl
                      rotate_left
                      ·simp only [Act.put, List.setIfInBounds_toArray, List.set_cons_zero, List.set_cons_succ, i64_w, i32_w]
                       rfl
                      refine pure_ (i := 10) (N := some 67) (v := ?_) (a' := ?_) #[true, true, true, true, true, true, true, true, false, true, true, false, false, false, false, false, false, false, false, false, false, false] rfl rfl (any_of HT_.out (by kernel_rfl)) (fun _ _ _ h => h) (Or.inl ⟨by rfl, ?_⟩) ?_ ?_
                      rotate_left
                      ·intro w'
                       go_simp
                       with_reducible rfl
                      rotate_left
                      ·simp only [Act.put, List.setIfInBounds_toArray, List.set_cons_zero, List.set_cons_succ, i64_w, i32_w]
                       rfl
                      refine pure_ (i := 11) (N := some 68) (v := ?_) (a' := ?_) #[true, true, true, true, true, true, true, true, false, true, true, true, false, false, false, false, false, false, false, false, false, false] rfl rfl (any_of HT_.out (by kernel_rfl)) (fun _ _ _ h => h) (Or.inl ⟨by rfl, ?_⟩) ?_ ?_
                      rotate_left
                      ·intro w'
                       go_simp
                       with_reducible rfl
                      rotate_left
                      ·simp only [Act.put, List.setIfInBounds_toArray, List.set_cons_zero, List.set_cons_succ, i64_w, i32_w]
                       rfl
                      refine pure_ (i := 12) (N := some 69) (v := ?_) (a' := ?_) #[true, true, true, true, true, true, true, true, false, true, true, true, true, false, false, false, false, false, false, false, false, false] rfl rfl (any_of HT_.out (by kernel_rfl)) (fun _ _ _ h => h) (Or.inl ⟨by rfl, ?_⟩) ?_ ?_
                      rotate_left
                      ·intro w'
                       go_simp
                       with_reducible rfl
                      rotate_left
                      ·simp only [Act.put, List.setIfInBounds_toArray, List.set_cons_zero, List.set_cons_succ, i64_w, i32_w]
                       rfl
                      refine pure_ (i := 13) (N := some 70) (v := ?_) (a' := ?_) #[true, true, true, true, true, true, true, true, false, true, true, true, true, true, false, false, false, false, false, false, false, false] rfl rfl (any_of HT_.out (by kernel_rfl)) (fun _ _ _ h => h) (Or.inl ⟨by rfl, ?_⟩) ?_ ?_
                      rotate_left
                      ·intro w'
                       go_simp
                       with_reducible rfl
                      rotate_left
                      ·simp only [Act.put, List.setIfInBounds_toArray, List.set_cons_zero, List.set_cons_succ, i64_w, i32_w]
                       rfl
                      refine pure_ (i := 16) (N := some 73) (v := ?_) (a' := ?_) #[true, true, true, true, true, true, true, true, false, true, true, true, true, true, false, false, true, false, false, false, false, false] rfl rfl (any_of HT_.out (by kernel_rfl)) (fun _ _ _ h => h) (Or.inl ⟨by rfl, ?_⟩) ?_ ?_
                      rotate_left
                      ·intro w'
                       go_simp
                       with_reducible rfl
                      rotate_left
                      ·simp only [Act.put, List.setIfInBounds_toArray, List.set_cons_zero, List.set_cons_succ, i64_w, i32_w]
                       rfl
                      refine pure_ (i := 17) (N := some 74) (v := ?_) (a' := ?_) #[true, true, true, true, true, true, true, true, false, true, true, true, true, true, false, false, true, true, false, false, false, false] rfl rfl (any_of HT_.out (by kernel_rfl)) (fun _ _ _ h => h) (Or.inl ⟨by rfl, ?_⟩) ?_ ?_
                      rotate_left
                      ·intro w'
                       go_simp
                       with_reducible rfl
                      rotate_left
                      ·simp only [Act.put, List.setIfInBounds_toArray, List.set_cons_zero, List.set_cons_succ, i64_w, i32_w]
                       rfl
                      refine pure_ (i := 18) (N := some 75) (v := ?_) (a' := ?_) #[true, true, true, true, true, true, true, true, false, true, true, true, true, true, false, false, true, true, true, false, false, false] rfl rfl (any_of HT_.out (by kernel_rfl)) (fun _ _ _ h => h) (Or.inl ⟨by rfl, ?_⟩) ?_ ?_
                      rotate_left
                      ·intro w'
                       go_simp
                       with_reducible rfl
                      rotate_left
                      ·simp only [Act.put, List.setIfInBounds_toArray, List.set_cons_zero, List.set_cons_succ, i64_w, i32_w]
                       rfl
                      refine take_ (i := 8) (N := some 65) (v := ?_) (a' := ?_) #[true, true, true, true, true, true, true, true, true, true, true, true, true, true, false, false, true, true, true, false, false, false] rfl rfl (take_ofW HT_.out HW_.out (by kernel_rfl)) (fun _ _ _ h => h) (Or.inl ⟨by rfl, ?_⟩) hHeld ?_ ?_
                      rotate_left
                      ·rintro w' ⟨s0, s1, s2, s3, s4, s5, s6, s7, s8⟩
                       go_simp
                       with_reducible rfl
                      rotate_left
                      ·simp only [Act.put, List.setIfInBounds_toArray, List.set_cons_zero, List.set_cons_succ, i64_w, i32_w]
                       rfl
                      refine take_ (i := 14) (N := some 71) (v := ?_) (a' := ?_) #[true, true, true, true, true, true, true, true, true, true, true, true, true, true, true, false, true, true, true, false, false, false] rfl rfl (take_ofW HT_.out HW_.out (by kernel_rfl)) (fun _ _ _ h => h) (Or.inl ⟨by rfl, ?_⟩) hHeld ?_ ?_
                      rotate_left
                      ·rintro w' ⟨s0, s1, s2, s3, s4, s5, s6, s7, s8⟩
                       go_simp
                       with_reducible rfl
                      rotate_left
                      ·simp only [Act.put, List.setIfInBounds_toArray, List.set_cons_zero, List.set_cons_succ, i64_w, i32_w]
                       rfl
                      refine pure_ (i := 15) (N := some 72) (v := ?_) (a' := ?_) #[true, true, true, true, true, true, true, true, true, true, true, true, true, true, true, true, true, true, true, false, false, false] rfl rfl (any_of HT_.out (by kernel_rfl)) (fun _ _ _ h => h) (Or.inl ⟨by rfl, ?_⟩) ?_ ?_
                      rotate_left
                      ·intro w'
                       go_simp
                       with_reducible rfl
                      rotate_left
                      ·simp only [Act.put, List.setIfInBounds_toArray, List.set_cons_zero, List.set_cons_succ, i64_w, i32_w]
                       rfl
                      refine take_ (i := 19) (N := some 76) (v := ?_) (a' := ?_) #[true, true, true, true, true, true, true, true, true, true, true, true, true, true, true, true, true, true, true, true, false, false] rfl rfl (take_ofW HT_.out HW_.out (by kernel_rfl)) (fun _ _ _ h => h) (Or.inl ⟨by rfl, ?_⟩) hHeld ?_ ?_
                      rotate_left
                      ·rintro w' ⟨s0, s1, s2, s3, s4, s5, s6, s7, s8⟩
                       go_simp
                       with_reducible rfl
                      rotate_left
                      ·simp only [Act.put, List.setIfInBounds_toArray, List.set_cons_zero, List.set_cons_succ, i64_w, i32_w]
                       rfl
                      refine pure_ (i := 20) (N := some 77) (v := ?_) (a' := ?_) #[true, true, true, true, true, true, true, true, true, true, true, true, true, true, true, true, true, true, true, true, true, false] rfl rfl (any_of HT_.out (by kernel_rfl)) (fun _ _ _ h => h) (Or.inl ⟨by rfl, ?_⟩) ?_ ?_
                      rotate_left
                      ·intro w'
                       go_simp
                       with_reducible rfl
                      rotate_left
                      ·simp only [Act.put, List.setIfInBounds_toArray, List.set_cons_zero, List.set_cons_succ, i64_w, i32_w]
                       rfl
                      refine pure_ (i := 21) (N := some 78) (v := ?_) (a' := ?_) #[true, true, true, true, true, true, true, true, true, true, true, true, true, true, true, true, true, true, true, true, true, true] rfl rfl (any_of HT_.out (by kernel_rfl)) (fun _ _ _ h => h) (Or.inl ⟨by rfl, ?_⟩) ?_ ?_
                      rotate_left
                      ·intro w'
                       go_simp
                       with_reducible rfl
                      rotate_left
                      ·simp only [Act.put, List.setIfInBounds_toArray, List.set_cons_zero, List.set_cons_succ, i64_w, i32_w]
                       rfl
                      refine done_ (done_of HT_.out (by kernel_rfl)) ?_
                      try go_wp2
                      have n0_ := Aside0.mk (Kd.R_drew HO_8.out)
                      have n1_ := Aside0.mk (Kd.R_drew HO_9.out)
                      have n2_ := Aside0.mk (Kd.R_drew HO_10.out)
                      have n3_ := Aside0.mk (Kd.R_drew HO_11.out)
                      have n4_ := Aside0.mk (Kd.R_drew HO_13.out)
                      have n5_ := Aside0.mk (below_drew1 HB.out)
                      clear HO_8
                      clear HO_9
                      clear HO_10
                      clear HO_11
                      clear HO_13
                      clear HB
                      have HO_8 := n0_
                      have HO_9 := n1_
                      have HO_10 := n2_
                      have HO_11 := n3_
                      have HO_13 := n4_
                      have HB := n5_
                      clear n0_ n1_ n2_ n3_ n4_ n5_
                      have p398 : 0 ≤ (x14_2 : Int) := of_decide_eq_true (by first | (with_reducible assumption) | assumption)
                      have q398 : x14_2 < (t380.length : Int) := of_decide_eq_true (by first | (with_reducible assumption) | assumption)
                      obtain ⟨ad398, e398, hx398_0⟩ := Kd.at_int (Kd.R_reads' HO_8.out).2.2 x14_2 p398 q398
                      obtain rfl : ad389 = ad398 := (by injection e398)
                      replace p398 := eq_true p398
                      replace q398 := eq_true q398
                      have p399 : 0 ≤ (x12_1 : Int) := of_decide_eq_true (by first | (with_reducible assumption) | assumption)
                      have q399 : x12_1 < (t381.length : Int) := of_decide_eq_true (by first | (with_reducible assumption) | assumption)
                      obtain ⟨ad399, e399, hx399_0⟩ := Kd.at_int (Kd.R_reads' HO_9.out).2.2 x12_1 p399 q399
                      obtain rfl : ad390 = ad399 := (by injection e399)
                      replace p399 := eq_true p399
                      replace q399 := eq_true q399
                      have p400 : 0 ≤ ((ji35) : Int) := of_decide_eq_true (by first | (with_reducible assumption) | assumption)
                      have q400 : (ji35) < (t380.length : Int) := of_decide_eq_true (by first | (with_reducible assumption) | assumption)
                      obtain ⟨ad400, e400, hx400_0⟩ := Kd.at_int (Kd.R_reads' HO_8.out).2.2 (ji35) p400 q400
                      obtain rfl : ad389 = ad400 := (by injection e400)
                      replace p400 := eq_true p400
                      replace q400 := eq_true q400
                      have p401 : 0 ≤ (x14_2 : Int) := of_decide_eq_true (by first | (with_reducible assumption) | assumption)
                      have q401 : x14_2 < (t380.length : Int) := of_decide_eq_true (by first | (with_reducible assumption) | assumption)
                      obtain ⟨ad401, e401, hx401_0⟩ := Kd.at_int (Kd.R_reads' HO_8.out).2.2 x14_2 p401 q401
                      obtain rfl : ad389 = ad401 := (by injection e401)
                      replace p401 := eq_true p401
                      replace q401 := eq_true q401
                      have p402 : 0 ≤ ((ji37) : Int) := of_decide_eq_true (by first | (with_reducible assumption) | assumption)
                      have q402 : (ji37) < (t381.length : Int) := of_decide_eq_true (by first | (with_reducible assumption) | assumption)
                      obtain ⟨ad402, e402, hx402_0⟩ := Kd.at_int (Kd.R_reads' HO_9.out).2.2 (ji37) p402 q402
                      obtain rfl : ad390 = ad402 := (by injection e402)
                      replace p402 := eq_true p402
                      replace q402 := eq_true q402
                      have p403 : 0 ≤ (x12_1 : Int) := of_decide_eq_true (by first | (with_reducible assumption) | assumption)
                      have q403 : x12_1 < (t381.length : Int) := of_decide_eq_true (by first | (with_reducible assumption) | assumption)
                      obtain ⟨ad403, e403, hx403_0⟩ := Kd.at_int (Kd.R_reads' HO_9.out).2.2 x12_1 p403 q403
                      obtain rfl : ad390 = ad403 := (by injection e403)
                      replace p403 := eq_true p403
                      replace q403 := eq_true q403
                      refine start_ (n := 33) (S := fun w' => w'.cell? (ad389.add (x14_2).toNat) = some (.int .i64 (rd t380 x14_2)) ∧ w'.cell? (ad390.add (x12_1).toNat) = some (.int .i64 (rd t381 x12_1)) ∧ w'.cell? (ad389.add ((ji35)).toNat) = some (.int .i64 (rd t380 (ji35))) ∧ w'.cell? (ad389.add (x14_2).toNat) = some (.int .i64 (rd t380 x14_2)) ∧ w'.cell? (ad390.add ((ji37)).toNat) = some (.int .i64 (rd t381 (ji37))) ∧ w'.cell? (ad390.add (x12_1).toNat) = some (.int .i64 (rd t381 x12_1))) (ds := [30, 31]) #[false, false, false, false, false, false, false, false, false, false, false, false, false, false, false, false, false, false, false, false, false, false, false, false, false, false, false, false, false, false, false, false, false] (by kernel_rfl) rfl rfl ⟨hx398_0, hx399_0, hx400_0, hx401_0, hx402_0, hx403_0⟩ (fun hHeld => ?_); refine with_tabW miradorref15_Combine.tab18 miradorref15_Combine.bits18 (fun HT_ HW_ => ?_)
                      generalize w45.drew = w46 at HO_8 HO_9 HO_10 HO_11 HO_13 HB hx398_0 hx399_0 hx400_0 hx401_0 hx402_0 hx403_0 hHeld ⊢
                      refine pure_ (i := 0) (N := some 96) (v := ?_) (a' := ?_) #[true, false, false, false, false, false, false, false, false, false, false, false, false, false, false, false, false, false, false, false, false, false, false, false, false, false, false, false, false, false, false, false, false] rfl rfl (any_of HT_.out (by kernel_rfl)) (fun _ _ _ h => h) (Or.inl ⟨by rfl, ?_⟩) ?_ ?_
                      rotate_left
                      ·intro w'
                       go_simp
                       with_reducible rfl
                      rotate_left
                      ·simp only [Act.put, List.setIfInBounds_toArray, List.set_cons_zero, List.set_cons_succ, i64_w, i32_w]
                       rfl
                      refine pure_ (i := 1) (N := some 97) (v := ?_) (a' := ?_) #[true, true, false, false, false, false, false, false, false, false, false, false, false, false, false, false, false, false, false, false, false, false, false, false, false, false, false, false, false, false, false, false, false] rfl rfl (any_of HT_.out (by kernel_rfl)) (fun _ _ _ h => h) (Or.inl ⟨by rfl, ?_⟩) ?_ ?_
                      rotate_left
                      ·intro w'
                       go_simp
                       with_reducible rfl
                      rotate_left
                      ·simp only [Act.put, List.setIfInBounds_toArray, List.set_cons_zero, List.set_cons_succ, i64_w, i32_w]
                       rfl
                      refine pure_ (i := 2) (N := some 98) (v := ?_) (a' := ?_) #[true, true, true, false, false, false, false, false, false, false, false, false, false, false, false, false, false, false, false, false, false, false, false, false, false, false, false, false, false, false, false, false, false] rfl rfl (any_of HT_.out (by kernel_rfl)) (fun _ _ _ h => h) (Or.inl ⟨by rfl, ?_⟩) ?_ ?_
                      rotate_left
                      ·intro w'
                       go_simp
                       with_reducible rfl
                      rotate_left
                      ·simp only [Act.put, List.setIfInBounds_toArray, List.set_cons_zero, List.set_cons_succ, i64_w, i32_w]
                       rfl
                      refine pure_ (i := 3) (N := some 99) (v := ?_) (a' := ?_) #[true, true, true, true, false, false, false, false, false, false, false, false, false, false, false, false, false, false, false, false, false, false, false, false, false, false, false, false, false, false, false, false, false] rfl rfl (any_of HT_.out (by kernel_rfl)) (fun _ _ _ h => h) (Or.inl ⟨by rfl, ?_⟩) ?_ ?_
                      rotate_left
                      ·intro w'
                       go_simp
                       with_reducible rfl
                      rotate_left
                      ·simp only [Act.put, List.setIfInBounds_toArray, List.set_cons_zero, List.set_cons_succ, i64_w, i32_w]
                       rfl
                      refine pure_ (i := 5) (N := some 101) (v := ?_) (a' := ?_) #[true, true, true, true, false, true, false, false, false, false, false, false, false, false, false, false, false, false, false, false, false, false, false, false, false, false, false, false, false, false, false, false, false] rfl rfl (any_of HT_.out (by kernel_rfl)) (fun _ _ _ h => h) (Or.inl ⟨by rfl, ?_⟩) ?_ ?_
                      rotate_left
                      ·intro w'
                       go_simp
                       with_reducible rfl
                      rotate_left
                      ·simp only [Act.put, List.setIfInBounds_toArray, List.set_cons_zero, List.set_cons_succ, i64_w, i32_w]
                       rfl
                      refine pure_ (i := 6) (N := some 102) (v := ?_) (a' := ?_) #[true, true, true, true, false, true, true, false, false, false, false, false, false, false, false, false, false, false, false, false, false, false, false, false, false, false, false, false, false, false, false, false, false] rfl rfl (any_of HT_.out (by kernel_rfl)) (fun _ _ _ h => h) (Or.inl ⟨by rfl, ?_⟩) ?_ ?_
                      rotate_left
                      ·intro w'
                       go_simp
                       with_reducible rfl
                      rotate_left
                      ·simp only [Act.put, List.setIfInBounds_toArray, List.set_cons_zero, List.set_cons_succ, i64_w, i32_w]
                       rfl
                      refine pure_ (i := 7) (N := some 103) (v := ?_) (a' := ?_) #[true, true, true, true, false, true, true, true, false, false, false, false, false, false, false, false, false, false, false, false, false, false, false, false, false, false, false, false, false, false, false, false, false] rfl rfl (any_of HT_.out (by kernel_rfl)) (fun _ _ _ h => h) (Or.inl ⟨by rfl, ?_⟩) ?_ ?_
                      rotate_left
                      ·intro w'
                       go_simp
                       with_reducible rfl
                      rotate_left
                      ·simp only [Act.put, List.setIfInBounds_toArray, List.set_cons_zero, List.set_cons_succ, i64_w, i32_w]
                       rfl
                      refine pure_ (i := 9) (N := some 105) (v := ?_) (a' := ?_) #[true, true, true, true, false, true, true, true, false, true, false, false, false, false, false, false, false, false, false, false, false, false, false, false, false, false, false, false, false, false, false, false, false] rfl rfl (any_of HT_.out (by kernel_rfl)) (fun _ _ _ h => h) (Or.inl ⟨by rfl, ?_⟩) ?_ ?_
                      rotate_left
                      ·intro w'
                       go_simp
                       with_reducible rfl
                      rotate_left
                      ·simp only [Act.put, List.setIfInBounds_toArray, List.set_cons_zero, List.set_cons_succ, i64_w, i32_w]
                       rfl
                      refine pure_ (i := 10) (N := some 106) (v := ?_) (a' := ?_) #[true, true, true, true, false, true, true, true, false, true, true, false, false, false, false, false, false, false, false, false, false, false, false, false, false, false, false, false, false, false, false, false, false] rfl rfl (any_of HT_.out (by kernel_rfl)) (fun _ _ _ h => h) (Or.inl ⟨by rfl, ?_⟩) ?_ ?_
                      rotate_left
                      ·intro w'
                       go_simp
                       with_reducible rfl
                      rotate_left
                      ·simp only [Act.put, List.setIfInBounds_toArray, List.set_cons_zero, List.set_cons_succ, i64_w, i32_w]
                       rfl
                      refine pure_ (i := 11) (N := some 107) (v := ?_) (a' := ?_) #[true, true, true, true, false, true, true, true, false, true, true, true, false, false, false, false, false, false, false, false, false, false, false, false, false, false, false, false, false, false, false, false, false] rfl rfl (any_of HT_.out (by kernel_rfl)) (fun _ _ _ h => h) (Or.inl ⟨by rfl, ?_⟩) ?_ ?_
                      rotate_left
                      ·intro w'
                       go_simp
                       with_reducible rfl
                      rotate_left
                      ·simp only [Act.put, List.setIfInBounds_toArray, List.set_cons_zero, List.set_cons_succ, i64_w, i32_w]
                       rfl
                      refine pure_ (i := 12) (N := some 108) (v := ?_) (a' := ?_) #[true, true, true, true, false, true, true, true, false, true, true, true, true, false, false, false, false, false, false, false, false, false, false, false, false, false, false, false, false, false, false, false, false] rfl rfl (any_of HT_.out (by kernel_rfl)) (fun _ _ _ h => h) (Or.inl ⟨by rfl, ?_⟩) ?_ ?_
                      rotate_left
                      ·intro w'
                       go_simp
                       with_reducible rfl
                      rotate_left
                      ·simp only [Act.put, List.setIfInBounds_toArray, List.set_cons_zero, List.set_cons_succ, i64_w, i32_w]
                       rfl
                      refine pure_ (i := 14) (N := some 110) (v := ?_) (a' := ?_) #[true, true, true, true, false, true, true, true, false, true, true, true, true, false, true, false, false, false, false, false, false, false, false, false, false, false, false, false, false, false, false, false, false] rfl rfl (any_of HT_.out (by kernel_rfl)) (fun _ _ _ h => h) (Or.inl ⟨by rfl, ?_⟩) ?_ ?_
                      rotate_left
                      ·intro w'
                       go_simp
                       with_reducible rfl
                      rotate_left
                      ·simp only [Act.put, List.setIfInBounds_toArray, List.set_cons_zero, List.set_cons_succ, i64_w, i32_w]
                       rfl
                      refine pure_ (i := 15) (N := some 111) (v := ?_) (a' := ?_) #[true, true, true, true, false, true, true, true, false, true, true, true, true, false, true, true, false, false, false, false, false, false, false, false, false, false, false, false, false, false, false, false, false] rfl rfl (any_of HT_.out (by kernel_rfl)) (fun _ _ _ h => h) (Or.inl ⟨by rfl, ?_⟩) ?_ ?_
                      rotate_left
                      ·intro w'
                       go_simp
                       with_reducible rfl
                      rotate_left
                      ·simp only [Act.put, List.setIfInBounds_toArray, List.set_cons_zero, List.set_cons_succ, i64_w, i32_w]
                       rfl
                      refine pure_ (i := 16) (N := some 112) (v := ?_) (a' := ?_) #[true, true, true, true, false, true, true, true, false, true, true, true, true, false, true, true, true, false, false, false, false, false, false, false, false, false, false, false, false, false, false, false, false] rfl rfl (any_of HT_.out (by kernel_rfl)) (fun _ _ _ h => h) (Or.inl ⟨by rfl, ?_⟩) ?_ ?_
                      rotate_left
                      ·intro w'
                       go_simp
                       with_reducible rfl
                      rotate_left
                      ·simp only [Act.put, List.setIfInBounds_toArray, List.set_cons_zero, List.set_cons_succ, i64_w, i32_w]
                       rfl
                      refine pure_ (i := 19) (N := some 115) (v := ?_) (a' := ?_) #[true, true, true, true, false, true, true, true, false, true, true, true, true, false, true, true, true, false, false, true, false, false, false, false, false, false, false, false, false, false, false, false, false] rfl rfl (any_of HT_.out (by kernel_rfl)) (fun _ _ _ h => h) (Or.inl ⟨by rfl, ?_⟩) ?_ ?_
                      rotate_left
                      ·intro w'
                       go_simp
                       with_reducible rfl
                      rotate_left
                      ·simp only [Act.put, List.setIfInBounds_toArray, List.set_cons_zero, List.set_cons_succ, i64_w, i32_w]
                       rfl
                      refine pure_ (i := 20) (N := some 116) (v := ?_) (a' := ?_) #[true, true, true, true, false, true, true, true, false, true, true, true, true, false, true, true, true, false, false, true, true, false, false, false, false, false, false, false, false, false, false, false, false] rfl rfl (any_of HT_.out (by kernel_rfl)) (fun _ _ _ h => h) (Or.inl ⟨by rfl, ?_⟩) ?_ ?_
                      rotate_left
                      ·intro w'
                       go_simp
                       with_reducible rfl
                      rotate_left
                      ·simp only [Act.put, List.setIfInBounds_toArray, List.set_cons_zero, List.set_cons_succ, i64_w, i32_w]
                       rfl
                      refine pure_ (i := 21) (N := some 117) (v := ?_) (a' := ?_) #[true, true, true, true, false, true, true, true, false, true, true, true, true, false, true, true, true, false, false, true, true, true, false, false, false, false, false, false, false, false, false, false, false] rfl rfl (any_of HT_.out (by kernel_rfl)) (fun _ _ _ h => h) (Or.inl ⟨by rfl, ?_⟩) ?_ ?_
                      rotate_left
                      ·intro w'
                       go_simp
                       with_reducible rfl
                      rotate_left
                      ·simp only [Act.put, List.setIfInBounds_toArray, List.set_cons_zero, List.set_cons_succ, i64_w, i32_w]
                       rfl
                      refine pure_ (i := 22) (N := some 118) (v := ?_) (a' := ?_) #[true, true, true, true, false, true, true, true, false, true, true, true, true, false, true, true, true, false, false, true, true, true, true, false, false, false, false, false, false, false, false, false, false] rfl rfl (any_of HT_.out (by kernel_rfl)) (fun _ _ _ h => h) (Or.inl ⟨by rfl, ?_⟩) ?_ ?_
                      rotate_left
                      ·intro w'
                       go_simp
                       with_reducible rfl
                      rotate_left
                      ·simp only [Act.put, List.setIfInBounds_toArray, List.set_cons_zero, List.set_cons_succ, i64_w, i32_w]
                       rfl
                      refine pure_ (i := 24) (N := some 120) (v := ?_) (a' := ?_) #[true, true, true, true, false, true, true, true, false, true, true, true, true, false, true, true, true, false, false, true, true, true, true, false, true, false, false, false, false, false, false, false, false] rfl rfl (any_of HT_.out (by kernel_rfl)) (fun _ _ _ h => h) (Or.inl ⟨by rfl, ?_⟩) ?_ ?_
                      rotate_left
                      ·intro w'
                       go_simp
                       with_reducible rfl
                      rotate_left
                      ·simp only [Act.put, List.setIfInBounds_toArray, List.set_cons_zero, List.set_cons_succ, i64_w, i32_w]
                       rfl
                      refine pure_ (i := 25) (N := some 121) (v := ?_) (a' := ?_) #[true, true, true, true, false, true, true, true, false, true, true, true, true, false, true, true, true, false, false, true, true, true, true, false, true, true, false, false, false, false, false, false, false] rfl rfl (any_of HT_.out (by kernel_rfl)) (fun _ _ _ h => h) (Or.inl ⟨by rfl, ?_⟩) ?_ ?_
                      rotate_left
                      ·intro w'
                       go_simp
                       with_reducible rfl
                      rotate_left
                      ·simp only [Act.put, List.setIfInBounds_toArray, List.set_cons_zero, List.set_cons_succ, i64_w, i32_w]
                       rfl
                      refine pure_ (i := 26) (N := some 122) (v := ?_) (a' := ?_) #[true, true, true, true, false, true, true, true, false, true, true, true, true, false, true, true, true, false, false, true, true, true, true, false, true, true, true, false, false, false, false, false, false] rfl rfl (any_of HT_.out (by kernel_rfl)) (fun _ _ _ h => h) (Or.inl ⟨by rfl, ?_⟩) ?_ ?_
                      rotate_left
                      ·intro w'
                       go_simp
                       with_reducible rfl
                      rotate_left
                      ·simp only [Act.put, List.setIfInBounds_toArray, List.set_cons_zero, List.set_cons_succ, i64_w, i32_w]
                       rfl
                      refine take_ (i := 4) (N := some 100) (v := ?_) (a' := ?_) #[true, true, true, true, true, true, true, true, false, true, true, true, true, false, true, true, true, false, false, true, true, true, true, false, true, true, true, false, false, false, false, false, false] rfl rfl (take_ofW HT_.out HW_.out (by kernel_rfl)) (fun _ _ _ h => h) (Or.inl ⟨by rfl, ?_⟩) hHeld ?_ ?_
                      rotate_left
                      ·rintro w' ⟨s0, s1, s2, s3, s4, s5⟩
                       go_simp
                       with_reducible rfl
                      rotate_left
                      ·simp only [Act.put, List.setIfInBounds_toArray, List.set_cons_zero, List.set_cons_succ, i64_w, i32_w]
                       rfl
                      refine take_ (i := 8) (N := some 104) (v := ?_) (a' := ?_) #[true, true, true, true, true, true, true, true, true, true, true, true, true, false, true, true, true, false, false, true, true, true, true, false, true, true, true, false, false, false, false, false, false] rfl rfl (take_ofW HT_.out HW_.out (by kernel_rfl)) (fun _ _ _ h => h) (Or.inl ⟨by rfl, ?_⟩) hHeld ?_ ?_
                      rotate_left
                      ·rintro w' ⟨s0, s1, s2, s3, s4, s5⟩
                       go_simp
                       with_reducible rfl
                      rotate_left
                      ·simp only [Act.put, List.setIfInBounds_toArray, List.set_cons_zero, List.set_cons_succ, i64_w, i32_w]
                       rfl
                      refine take_ (i := 13) (N := some 109) (v := ?_) (a' := ?_) #[true, true, true, true, true, true, true, true, true, true, true, true, true, true, true, true, true, false, false, true, true, true, true, false, true, true, true, false, false, false, false, false, false] rfl rfl (take_ofW HT_.out HW_.out (by kernel_rfl)) (fun _ _ _ h => h) (Or.inl ⟨by rfl, ?_⟩) hHeld ?_ ?_
                      rotate_left
                      ·rintro w' ⟨s0, s1, s2, s3, s4, s5⟩
                       go_simp
                       with_reducible rfl
                      rotate_left
                      ·simp only [Act.put, List.setIfInBounds_toArray, List.set_cons_zero, List.set_cons_succ, i64_w, i32_w]
                       rfl
                      refine take_ (i := 17) (N := some 113) (v := ?_) (a' := ?_) #[true, true, true, true, true, true, true, true, true, true, true, true, true, true, true, true, true, true, false, true, true, true, true, false, true, true, true, false, false, false, false, false, false] rfl rfl (take_ofW HT_.out HW_.out (by kernel_rfl)) (fun _ _ _ h => h) (Or.inl ⟨by rfl, ?_⟩) hHeld ?_ ?_
                      rotate_left
                      ·rintro w' ⟨s0, s1, s2, s3, s4, s5⟩
                       go_simp
                       with_reducible rfl
                      rotate_left
                      ·simp only [Act.put, List.setIfInBounds_toArray, List.set_cons_zero, List.set_cons_succ, i64_w, i32_w]
                       rfl
                      refine pure_ (i := 18) (N := some 114) (v := ?_) (a' := ?_) #[true, true, true, true, true, true, true, true, true, true, true, true, true, true, true, true, true, true, true, true, true, true, true, false, true, true, true, false, false, false, false, false, false] rfl rfl (any_of HT_.out (by kernel_rfl)) (fun _ _ _ h => h) (Or.inl ⟨by rfl, ?_⟩) ?_ ?_
                      rotate_left
                      ·intro w'
                       go_simp
                       with_reducible rfl
                      rotate_left
                      ·simp only [Act.put, List.setIfInBounds_toArray, List.set_cons_zero, List.set_cons_succ, i64_w, i32_w]
                       rfl
                      refine take_ (i := 23) (N := some 119) (v := ?_) (a' := ?_) #[true, true, true, true, true, true, true, true, true, true, true, true, true, true, true, true, true, true, true, true, true, true, true, true, true, true, true, false, false, false, false, false, false] rfl rfl (take_ofW HT_.out HW_.out (by kernel_rfl)) (fun _ _ _ h => h) (Or.inl ⟨by rfl, ?_⟩) hHeld ?_ ?_
                      rotate_left
                      ·rintro w' ⟨s0, s1, s2, s3, s4, s5⟩
                       go_simp
                       with_reducible rfl
                      rotate_left
                      ·simp only [Act.put, List.setIfInBounds_toArray, List.set_cons_zero, List.set_cons_succ, i64_w, i32_w]
                       rfl
                      refine take_ (i := 27) (N := some 123) (v := ?_) (a' := ?_) #[true, true, true, true, true, true, true, true, true, true, true, true, true, true, true, true, true, true, true, true, true, true, true, true, true, true, true, true, false, false, false, false, false] rfl rfl (take_ofW HT_.out HW_.out (by kernel_rfl)) (fun _ _ _ h => h) (Or.inl ⟨by rfl, ?_⟩) hHeld ?_ ?_
                      rotate_left
                      ·rintro w' ⟨s0, s1, s2, s3, s4, s5⟩
                       go_simp
                       with_reducible rfl
                      rotate_left
                      ·simp only [Act.put, List.setIfInBounds_toArray, List.set_cons_zero, List.set_cons_succ, i64_w, i32_w]
                       rfl
                      refine pure_ (i := 28) (N := some 124) (v := ?_) (a' := ?_) #[true, true, true, true, true, true, true, true, true, true, true, true, true, true, true, true, true, true, true, true, true, true, true, true, true, true, true, true, true, false, false, false, false] rfl rfl (any_of HT_.out (by kernel_rfl)) (fun _ _ _ h => h) (Or.inl ⟨by rfl, ?_⟩) ?_ ?_
                      rotate_left
                      ·intro w'
                       go_simp
                       with_reducible rfl
                      rotate_left
                      ·simp only [Act.put, List.setIfInBounds_toArray, List.set_cons_zero, List.set_cons_succ, i64_w, i32_w]
                       rfl
                      refine pure_ (i := 29) (N := some 125) (v := ?_) (a' := ?_) #[true, true, true, true, true, true, true, true, true, true, true, true, true, true, true, true, true, true, true, true, true, true, true, true, true, true, true, true, true, true, false, false, false] rfl rfl (any_of HT_.out (by kernel_rfl)) (fun _ _ _ h => h) (Or.inl ⟨by rfl, ?_⟩) ?_ ?_
                      rotate_left
                      ·intro w'
                       go_simp
                       with_reducible rfl
                      rotate_left
                      ·simp only [Act.put, List.setIfInBounds_toArray, List.set_cons_zero, List.set_cons_succ, i64_w, i32_w]
                       rfl
                      refine last_ (i := 30) (N := some 126) #[true, true, true, true, true, true, true, true, true, true, true, true, true, true, true, true, true, true, true, true, true, true, true, true, true, true, true, true, true, true, true, false, false] rfl rfl (one_of HT_.out (by kernel_rfl)) (by decide) (fun K hK => ?_)
                      refine value_ (w1 := ?_) (v := ?_) (by rfl) rfl ?_ ?_
                      rotate_left 2
                      ·go_simp
                       constructor
                       ·rfl
                       ·rfl
                      refine hK.out _ _ ?_
                      clear hK K
                      refine norm_ (a' := ?_) ?_ ?_
                      rotate_left
                      ·show Act.put _ (some 126) _ = _
                       simp only [Act.put, List.setIfInBounds_toArray, List.set_cons_zero, List.set_cons_succ, i64_w, i32_w]
                       rfl
                      refine last_ (i := 31) (N := some 127) #[true, true, true, true, true, true, true, true, true, true, true, true, true, true, true, true, true, true, true, true, true, true, true, true, true, true, true, true, true, true, true, true, false] rfl rfl (one_of HT_.out (by kernel_rfl)) (by decide) (fun K hK => ?_)
                      refine Kd.R_append_step k26 (w0 := w) w.heap.size (by rfl) (.tmp 96) (.tmp 126) 22 26 (.agg #[(.int .i64 0), (.int .i64 0), (.int .i64 0), (.int .i64 0)]) 32 rfl Try.underlying22 info26 rfl (by decide) (by omega) (.slice (some ad392) x13_2.length co44) x13_2 (⟨rd t380 x14_2, rd t381 x12_1, wrap64 ((rd t380 (ji35)) - (rd t380 x14_2)), wrap64 ((rd t381 (ji37)) - (rd t381 x12_1))⟩ : S26) [.int .i64 (rd t380 x14_2), .int .i64 (rd t381 x12_1), .int .i64 (wrap64 ((rd t380 (ji35)) - (rd t380 x14_2))), .int .i64 (wrap64 ((rd t381 (ji37)) - (rd t381 x12_1)))] (fun k_ => some k_ ≠ (u10 : Value).ownBlock ∧ some k_ ≠ (u11 : Value).ownBlock) (fun _ => False) rfl rfl ?aP (fun _ hk => hk.elim) ?aF ?aO ?aB ?aS ?aL ?_
                      (case aP => exact k26_mkM _ _ _ (⟨rd t380 x14_2, rd t381 x12_1, wrap64 ((rd t380 (ji35)) - (rd t380 x14_2)), wrap64 ((rd t381 (ji37)) - (rd t381 x12_1))⟩ : S26))
                      (case aB => exact (by repeat (first | (with_reducible first | exact HB.out | apply below_alloc | apply pw_below_drewN | apply below_drew1) | exact HB.out)))
                      (case aF => exact (fun k_ hk => ⟨Kd.fresh' (Kd.R_lt (by (with_reducible repeat (first | apply Kd.R_alloc | apply Kd.R_drewN | apply Kd.R_drew)); exact HO_10.out)) k_ hk, Kd.fresh' (Kd.R_lt (by (with_reducible repeat (first | apply Kd.R_alloc | apply Kd.R_drewN | apply Kd.R_drew)); exact HO_11.out)) k_ hk⟩))
                      (case aO => exact (by (with_reducible repeat (first | apply Kd.R_alloc | apply Kd.R_drewN | apply Kd.R_drew)); exact HO_13.out))
                      (case aS => exact (below_size (by repeat (first | (with_reducible first | exact HB.out | apply below_alloc | apply pw_below_drewN | apply below_drew1) | exact HB.out))))
                      (case aL => have := LMc40.out; omega)
                      intro v405 w47 ho hb hg hat
                      rw [← Ny404.out] at ho
                      have n0_ := Aside0.mk (Kd.R_over' (by (with_reducible repeat (first | apply Kd.R_alloc | apply Kd.R_drewN | apply Kd.R_drew)); exact HO_8.out) (Kd.R_typed (by (with_reducible repeat (first | apply Kd.R_alloc | apply Kd.R_drewN | apply Kd.R_drew)); exact HO_13.out)) (by decide) hg)
                      have n1_ := Aside0.mk (Kd.R_over' (by (with_reducible repeat (first | apply Kd.R_alloc | apply Kd.R_drewN | apply Kd.R_drew)); exact HO_9.out) (Kd.R_typed (by (with_reducible repeat (first | apply Kd.R_alloc | apply Kd.R_drewN | apply Kd.R_drew)); exact HO_13.out)) (by decide) hg)
                      have n2_ := Aside0.mk (Kd.R_after (ok := (fun k_ => some k_ ≠ (u11 : Value).ownBlock)) (by (with_reducible repeat (first | apply Kd.R_alloc | apply Kd.R_drewN | apply Kd.R_drew)); exact HO_10.out) hg hat)
                      have n3_ := Aside0.mk (Kd.R_after (ok := (fun k_ => some k_ ≠ (u10 : Value).ownBlock)) (by (with_reducible repeat (first | apply Kd.R_alloc | apply Kd.R_drewN | apply Kd.R_drew)); exact HO_11.out) hg hat)
                      have n4_ := Aside0.mk (hb)
                      have n5_ := Aside0.mk (ho)
                      clear HO_8
                      clear HO_9
                      clear HO_10
                      clear HO_11
                      clear HB
                      clear HO_13
                      have HO_8 := n0_
                      have HO_9 := n1_
                      have HO_10 := n2_
                      have HO_11 := n3_
                      have HB := n4_
                      have HO406 := n5_
                      clear n0_ n1_ n2_ n3_ n4_ n5_
                      clear ho hb hg hat
                      refine hK.out _ _ ?_
                      clear hK K
                      refine norm_ (a' := ?_) ?_ ?_
                      rotate_left
                      ·show Act.put _ (some 127) _ = _
                       simp only [Act.put, List.setIfInBounds_toArray, List.set_cons_zero, List.set_cons_succ, i64_w, i32_w]
                       rfl
                      refine pure_ (i := 32) (N := some 13) (v := ?_) (a' := ?_) #[true, true, true, true, true, true, true, true, true, true, true, true, true, true, true, true, true, true, true, true, true, true, true, true, true, true, true, true, true, true, true, true, true] rfl rfl (any_of HT_.out (by kernel_rfl)) (fun _ _ _ h => h) (Or.inl ⟨by rfl, ?_⟩) ?_ ?_
                      rotate_left
                      ·intro w'
                       go_simp
                       with_reducible rfl
                      rotate_left
                      ·simp only [Act.put, List.setIfInBounds_toArray, List.set_cons_zero, List.set_cons_succ, i64_w, i32_w]
                       rfl
                      refine done_ (done_of HT_.out (by kernel_rfl)) ?_
                      try go_wp2
                      (try simp only [← hji37])
                      go_roundg k2
                      case measure => have := HK1.out; have := HK2.out; omega
                      case rel => exact ⟨(x10_2), (x11_2), (y404), (ji35), (by first | rfl | (simp; done) | (simp only [← hji35] <;> (first | rfl | simp)) | (simp [*]; done)), H', ⟨by have := HK1.out; have := HK2.out; omega⟩, ⟨by (with_reducible repeat (first | apply Kd.R_alloc | apply Kd.R_drewN | apply Kd.R_drew)); exact HO_8.out⟩, ⟨by (with_reducible repeat (first | apply Kd.R_alloc | apply Kd.R_drewN | apply Kd.R_drew)); exact HO_9.out⟩, ⟨by (with_reducible repeat (first | apply Kd.R_alloc | apply Kd.R_drewN | apply Kd.R_drew)); exact HO_10.out⟩, ⟨by (with_reducible repeat (first | apply Kd.R_alloc | apply Kd.R_drewN | apply Kd.R_drew)); exact HO_11.out⟩, ⟨by (with_reducible repeat (first | apply Kd.R_alloc | apply Kd.R_drewN | apply Kd.R_drew)); exact HO406.out⟩, ⟨by repeat (first | (with_reducible first | exact HB.out | apply below_alloc | apply pw_below_drewN | apply below_drew1) | exact HB.out)⟩⟩
                     ·rw [if_neg c40] at H
                      exact absurd H (by simp)
                    ·rw [if_neg c39] at H
                     exact absurd H (by simp)
                   ·rw [if_neg c38] at H
                    exact absurd H (by simp)
                  ·rw [if_neg c36] at H
                   exact absurd H (by simp)
                ·rw [if_neg c23] at H
                 exact absurd H (by simp)
               ·rw [if_neg c22] at H
                exact absurd H (by simp)
              ·rw [if_neg c20] at H
               have c20b0 : decide (0 < (x13_2.length : Int)) = false := decide_eq_false c20
               have c20b1 : decide (0 < x13_2.length) = false := decide_eq_false (by omega)
               clear c20
               obtain ⟨ji48, hji48⟩ : ∃ j_ : Int, (wrap64 (x14_2 + 1)) = j_ := ⟨_, rfl⟩
               replace H : (if 0 ≤ (ji48) then (if 0 ≤ (wrap64 (x12_1 + 1)) then (if (wrap64 (x12_1 + 1)) < (t381.length : Int) then (if x13_2.length < 4398046511104 then (miradorref15_Combine.l1 k2 a0 l1 l2 t380 t381 x10_2 x11_2 x12_1 (x13_2 ++ [(⟨rd t380 x14_2, rd t381 x12_1, wrap64 ((rd t380 (ji48)) - (rd t380 x14_2)), wrap64 ((rd t381 (wrap64 (x12_1 + 1))) - (rd t381 x12_1))⟩ : S26)]) ji48) else (none)) else (none)) else (none)) else (none)) = some r := by first | (rw [hji48] at H; exact H) | (simp only [hji48] at H ⊢; exact H)
               (try rw [hji48] at c13b0)
               (try rw [hji48] at A18)
               have hji48w : (IntKind.i64.wrap (x14_2 + 1)) = ji48 := (i64_w _).trans hji48
               by_cases c49 : 0 ≤ (ji48)
               ·rw [if_pos c49] at H
                have c49b0 : decide (0 ≤ (ji48)) = true := decide_eq_true c49
                clear c49
                obtain ⟨ji50, hji50⟩ : ∃ j_ : Int, (wrap64 (x12_1 + 1)) = j_ := ⟨_, rfl⟩
                replace H : (if 0 ≤ (ji50) then (if (ji50) < (t381.length : Int) then (if x13_2.length < 4398046511104 then (miradorref15_Combine.l1 k2 a0 l1 l2 t380 t381 x10_2 x11_2 x12_1 (x13_2 ++ [(⟨rd t380 x14_2, rd t381 x12_1, wrap64 ((rd t380 (ji48)) - (rd t380 x14_2)), wrap64 ((rd t381 (ji50)) - (rd t381 x12_1))⟩ : S26)]) ji48) else (none)) else (none)) else (none)) = some r := by first | (rw [hji50] at H; exact H) | (simp only [hji50] at H ⊢; exact H)
                (try rw [hji50] at c11b0)
                (try rw [hji50] at A18)
                have hji50w : (IntKind.i64.wrap (x12_1 + 1)) = ji50 := (i64_w _).trans hji50
                by_cases c51 : 0 ≤ (ji50)
                ·rw [if_pos c51] at H
                 have c51b0 : decide (0 ≤ (ji50)) = true := decide_eq_true c51
                 clear c51
                 by_cases c52 : (ji50) < (t381.length : Int)
                 ·rw [if_pos c52] at H
                  have c52b0 : decide ((ji50) < (t381.length : Int)) = true := decide_eq_true c52
                  clear c52
                  by_cases c53 : x13_2.length < 4398046511104
                  ·rw [if_pos c53] at H
                   have LMc53 := Aside0.mk c53
                   clear c53
                   obtain ⟨y413, hy413⟩ : ∃ y_ : List (S26), y_ = (x13_2 ++ [(⟨rd t380 x14_2, rd t381 x12_1, wrap64 ((rd t380 (ji48)) - (rd t380 x14_2)), wrap64 ((rd t381 (ji50)) - (rd t381 x12_1))⟩ : S26)]) := ⟨_, rfl⟩
                   replace H : (miradorref15_Combine.l1 k2 a0 l1 l2 t380 t381 x10_2 x11_2 x12_1 y413 ji48) = some r := by first | (rw [hy413]; with_reducible exact H) | (have H2_ := (Option.bind_some _ _).symm.trans H; rw [hy413]; with_reducible exact H2_) | (have H2_ := (Option.bind_some _ _).symm.trans H; with_reducible exact H2_) | with_reducible exact H | (rw [hy413]; exact H) | exact H
                   have Ny413 := Aside0.mk hy413
                   clear hy413
                   have H' := Aside0.mk H
                   clear H
                   obtain ⟨Ao54, co54, eo54⟩ := Kd.R_slice HO_8.out
                   subst eo54
                   try go_wp2
                   have n0_ := Aside0.mk (Kd.R_drew HO_8.out)
                   have n1_ := Aside0.mk (Kd.R_drew HO_9.out)
                   have n2_ := Aside0.mk (Kd.R_drew HO_10.out)
                   have n3_ := Aside0.mk (Kd.R_drew HO_11.out)
                   have n4_ := Aside0.mk (Kd.R_drew HO_13.out)
                   have n5_ := Aside0.mk (below_drew1 HB.out)
                   clear HO_8
                   clear HO_9
                   clear HO_10
                   clear HO_11
                   clear HO_13
                   clear HB
                   have HO_8 := n0_
                   have HO_9 := n1_
                   have HO_10 := n2_
                   have HO_11 := n3_
                   have HO_13 := n4_
                   have HB := n5_
                   clear n0_ n1_ n2_ n3_ n4_ n5_
                   have p389 : 0 ≤ (x14_2 : Int) := of_decide_eq_true (by first | (with_reducible assumption) | assumption)
                   have q389 : x14_2 < (t380.length : Int) := of_decide_eq_true (by first | (with_reducible assumption) | assumption)
                   obtain ⟨ad389, e389, hx389_0⟩ := Kd.at_int (Kd.R_reads' HO_8.out).2.2 x14_2 p389 q389
                   cases e389
                   replace p389 := eq_true p389
                   replace q389 := eq_true q389
                   have p390 : 0 ≤ (x12_1 : Int) := of_decide_eq_true (by first | (with_reducible assumption) | assumption)
                   have q390 : x12_1 < (t381.length : Int) := of_decide_eq_true (by first | (with_reducible assumption) | assumption)
                   obtain ⟨ad390, e390, hx390_0⟩ := Kd.at_int (Kd.R_reads' HO_9.out).2.2 x12_1 p390 q390
                   cases e390
                   replace p390 := eq_true p390
                   replace q390 := eq_true q390
                   refine start_ (n := 13) (S := fun w' => w'.cell? (ad389.add (x14_2).toNat) = some (.int .i64 (rd t380 x14_2)) ∧ w'.cell? (ad390.add (x12_1).toNat) = some (.int .i64 (rd t381 x12_1))) (ds := []) #[false, false, false, false, false, false, false, false, false, false, false, false, false] (by kernel_rfl) rfl rfl ⟨hx389_0, hx390_0⟩ (fun hHeld => ?_); refine with_tabW miradorref15_Combine.tab14 miradorref15_Combine.bits14 (fun HT_ HW_ => ?_)
                   generalize wr.drew = w55 at HO_8 HO_9 HO_10 HO_11 HO_13 HB hx389_0 hx390_0 hHeld ⊢
                   refine pure_ (i := 0) (N := some 42) (v := ?_) (a' := ?_) #[true, false, false, false, false, false, false, false, false, false, false, false, false] rfl rfl (any_of HT_.out (by kernel_rfl)) (fun _ _ _ h => h) (Or.inl ⟨by rfl, ?_⟩) ?_ ?_
                   rotate_left
                   ·intro w'
                    go_simp
                    with_reducible rfl
                   rotate_left
                   ·simp only [Act.put, List.setIfInBounds_toArray, List.set_cons_zero, List.set_cons_succ, i64_w, i32_w]
                    rfl
                   refine pure_ (i := 1) (N := some 43) (v := ?_) (a' := ?_) #[true, true, false, false, false, false, false, false, false, false, false, false, false] rfl rfl (any_of HT_.out (by kernel_rfl)) (fun _ _ _ h => h) (Or.inl ⟨by rfl, ?_⟩) ?_ ?_
                   rotate_left
                   ·intro w'
                    go_simp
                    with_reducible rfl
                   rotate_left
                   ·simp only [Act.put, List.setIfInBounds_toArray, List.set_cons_zero, List.set_cons_succ, i64_w, i32_w]
                    rfl
                   refine pure_ (i := 2) (N := some 44) (v := ?_) (a' := ?_) #[true, true, true, false, false, false, false, false, false, false, false, false, false] rfl rfl (any_of HT_.out (by kernel_rfl)) (fun _ _ _ h => h) (Or.inl ⟨by rfl, ?_⟩) ?_ ?_
                   rotate_left
                   ·intro w'
                    go_simp
                    with_reducible rfl
                   rotate_left
                   ·simp only [Act.put, List.setIfInBounds_toArray, List.set_cons_zero, List.set_cons_succ, i64_w, i32_w]
                    rfl
                   refine pure_ (i := 3) (N := some 45) (v := ?_) (a' := ?_) #[true, true, true, true, false, false, false, false, false, false, false, false, false] rfl rfl (any_of HT_.out (by kernel_rfl)) (fun _ _ _ h => h) (Or.inl ⟨by rfl, ?_⟩) ?_ ?_
                   rotate_left
                   ·intro w'
                    go_simp
                    with_reducible rfl
                   rotate_left
                   ·simp only [Act.put, List.setIfInBounds_toArray, List.set_cons_zero, List.set_cons_succ, i64_w, i32_w]
                    rfl
                   refine pure_ (i := 4) (N := some 46) (v := ?_) (a' := ?_) #[true, true, true, true, true, false, false, false, false, false, false, false, false] rfl rfl (any_of HT_.out (by kernel_rfl)) (fun _ _ _ h => h) (Or.inl ⟨by rfl, ?_⟩) ?_ ?_
                   rotate_left
                   ·intro w'
                    go_simp
                    with_reducible rfl
                   rotate_left
                   ·simp only [Act.put, List.setIfInBounds_toArray, List.set_cons_zero, List.set_cons_succ, i64_w, i32_w]
                    rfl
                   refine pure_ (i := 5) (N := some 47) (v := ?_) (a' := ?_) #[true, true, true, true, true, true, false, false, false, false, false, false, false] rfl rfl (any_of HT_.out (by kernel_rfl)) (fun _ _ _ h => h) (Or.inl ⟨by rfl, ?_⟩) ?_ ?_
                   rotate_left
                   ·intro w'
                    go_simp
                    with_reducible rfl
                   rotate_left
                   ·simp only [Act.put, List.setIfInBounds_toArray, List.set_cons_zero, List.set_cons_succ, i64_w, i32_w]
                    rfl
                   refine pure_ (i := 7) (N := some 49) (v := ?_) (a' := ?_) #[true, true, true, true, true, true, false, true, false, false, false, false, false] rfl rfl (any_of HT_.out (by kernel_rfl)) (fun _ _ _ h => h) (Or.inl ⟨by rfl, ?_⟩) ?_ ?_
                   rotate_left
                   ·intro w'
                    go_simp
                    with_reducible rfl
                   rotate_left
                   ·simp only [Act.put, List.setIfInBounds_toArray, List.set_cons_zero, List.set_cons_succ, i64_w, i32_w]
                    rfl
                   refine pure_ (i := 8) (N := some 50) (v := ?_) (a' := ?_) #[true, true, true, true, true, true, false, true, true, false, false, false, false] rfl rfl (any_of HT_.out (by kernel_rfl)) (fun _ _ _ h => h) (Or.inl ⟨by rfl, ?_⟩) ?_ ?_
                   rotate_left
                   ·intro w'
                    go_simp
                    with_reducible rfl
                   rotate_left
                   ·simp only [Act.put, List.setIfInBounds_toArray, List.set_cons_zero, List.set_cons_succ, i64_w, i32_w]
                    rfl
                   refine pure_ (i := 9) (N := some 51) (v := ?_) (a' := ?_) #[true, true, true, true, true, true, false, true, true, true, false, false, false] rfl rfl (any_of HT_.out (by kernel_rfl)) (fun _ _ _ h => h) (Or.inl ⟨by rfl, ?_⟩) ?_ ?_
                   rotate_left
                   ·intro w'
                    go_simp
                    with_reducible rfl
                   rotate_left
                   ·simp only [Act.put, List.setIfInBounds_toArray, List.set_cons_zero, List.set_cons_succ, i64_w, i32_w]
                    rfl
                   refine take_ (i := 6) (N := some 48) (v := ?_) (a' := ?_) #[true, true, true, true, true, true, true, true, true, true, false, false, false] rfl rfl (take_ofW HT_.out HW_.out (by kernel_rfl)) (fun _ _ _ h => h) (Or.inl ⟨by rfl, ?_⟩) hHeld ?_ ?_
                   rotate_left
                   ·rintro w' ⟨s0, s1⟩
                    go_simp
                    with_reducible rfl
                   rotate_left
                   ·simp only [Act.put, List.setIfInBounds_toArray, List.set_cons_zero, List.set_cons_succ, i64_w, i32_w]
                    rfl
                   refine take_ (i := 10) (N := some 52) (v := ?_) (a' := ?_) #[true, true, true, true, true, true, true, true, true, true, true, false, false] rfl rfl (take_ofW HT_.out HW_.out (by kernel_rfl)) (fun _ _ _ h => h) (Or.inl ⟨by rfl, ?_⟩) hHeld ?_ ?_
                   rotate_left
                   ·rintro w' ⟨s0, s1⟩
                    go_simp
                    with_reducible rfl
                   rotate_left
                   ·simp only [Act.put, List.setIfInBounds_toArray, List.set_cons_zero, List.set_cons_succ, i64_w, i32_w]
                    rfl
                   refine one_ (i := 11) (N := some 53) #[true, true, true, true, true, true, true, true, true, true, true, true, false] rfl rfl (one_of HT_.out (by kernel_rfl)) (by decide) (fun K hK => ?_)
                   refine goes_ Try.func28 (by kernel_rfl) rfl #[.int .i64 a0, .slice A1 l1.length c1, .slice A2 l2.length c2, .int .i64 (rd t380 x14_2), .int .i64 (rd t381 x12_1)] (by rfl) rfl rfl (by (try simp only [List.map_toArray, List.map_cons, List.map_nil]); first | done | rfl | (simp only [List.length_drop, List.length_take]; rfl)) ?_
                   with_reducible refine (miradorref15_in.calls k2 a0 _ _ l1 _ _ l2 (rd t380 x14_2) (rd t381 x12_1) true _ ?side1 ?side2 ?side3 ?side4 A18.out).mono ?_
                   (case side1 => repeat (first | exact (Kd.C_below HR1.out HB.out) | (with_reducible refine Kd.C_alloc ?_ _) | (with_reducible refine Kd.C_drewN ?_ _) | (with_reducible refine Kd.C_drew ?_)))
                   (case side2 => exact HC1.out)
                   (case side3 => repeat (first | exact (Kd.C_below HR2.out HB.out) | (with_reducible refine Kd.C_alloc ?_ _) | (with_reducible refine Kd.C_drewN ?_ _) | (with_reducible refine Kd.C_drew ?_)))
                   (case side4 => exact HC2.out)
                   rintro e w56 ⟨rfl, hb⟩
                   have HS0_ := (hb.cell (World.block_lt_of_cell? _ _ (hHeld.1))).trans (hHeld.1)
                   have HS1_ := (hb.cell (World.block_lt_of_cell? _ _ (hHeld.2))).trans (hHeld.2)
                   refine ⟨_, rfl, ?_⟩
                   have n0_ := Aside0.mk (Kd.R_below (by (with_reducible repeat (first | apply Kd.R_alloc | apply Kd.R_drewN | apply Kd.R_drew)); exact HO_8.out) hb)
                   have n1_ := Aside0.mk (Kd.R_below (by (with_reducible repeat (first | apply Kd.R_alloc | apply Kd.R_drewN | apply Kd.R_drew)); exact HO_9.out) hb)
                   have n2_ := Aside0.mk (Kd.R_below (by (with_reducible repeat (first | apply Kd.R_alloc | apply Kd.R_drewN | apply Kd.R_drew)); exact HO_10.out) hb)
                   have n3_ := Aside0.mk (Kd.R_below (by (with_reducible repeat (first | apply Kd.R_alloc | apply Kd.R_drewN | apply Kd.R_drew)); exact HO_11.out) hb)
                   have n4_ := Aside0.mk (Kd.R_below (by (with_reducible repeat (first | apply Kd.R_alloc | apply Kd.R_drewN | apply Kd.R_drew)); exact HO_13.out) hb)
                   have n5_ := Aside0.mk (below_step (by repeat (first | (with_reducible first | exact HB.out | apply below_alloc | apply pw_below_drewN | apply below_drew1) | exact HB.out)) hb)
                   clear HO_8
                   clear HO_9
                   clear HO_10
                   clear HO_11
                   clear HO_13
                   clear HB
                   have HO_8 := n0_
                   have HO_9 := n1_
                   have HO_10 := n2_
                   have HO_11 := n3_
                   have HO_13 := n4_
                   have HB := n5_
                   clear n0_ n1_ n2_ n3_ n4_ n5_
                   (try clear hb)
                   (try clear hb2)
                   (try clear hk)
                   (try clear hi)
                   refine hK.out _ _ ⟨HS0_, HS1_⟩ (fun hHeld => ?_)
                   clear hK K
                   refine norm_ (a' := ?_) ?_ ?_
                   rotate_left
                   ·show Act.put _ (some 53) _ = _
                    simp only [Act.put, List.setIfInBounds_toArray, List.set_cons_zero, List.set_cons_succ, i64_w, i32_w]
                    rfl
                   refine pure_ (i := 12) (N := some 54) (v := ?_) (a' := ?_) #[true, true, true, true, true, true, true, true, true, true, true, true, true] rfl rfl (any_of HT_.out (by kernel_rfl)) (fun _ _ _ h => h) (Or.inl ⟨by rfl, ?_⟩) ?_ ?_
                   rotate_left
                   ·intro w'
                    go_simp
                    with_reducible rfl
                   rotate_left
                   ·simp only [Act.put, List.setIfInBounds_toArray, List.set_cons_zero, List.set_cons_succ, i64_w, i32_w]
                    rfl
                   refine done_ (done_of HT_.out (by kernel_rfl)) ?_
                   obtain ⟨Ao57, co57, eo57⟩ := Kd.R_slice HO_13.out
                   subst eo57
                   try go_wp2
                   have n0_ := Aside0.mk (Kd.R_drew HO_8.out)
                   have n1_ := Aside0.mk (Kd.R_drew HO_9.out)
                   have n2_ := Aside0.mk (Kd.R_drew HO_10.out)
                   have n3_ := Aside0.mk (Kd.R_drew HO_11.out)
                   have n4_ := Aside0.mk (Kd.R_drew HO_13.out)
                   have n5_ := Aside0.mk (below_drew1 HB.out)
                   clear HO_8
                   clear HO_9
                   clear HO_10
                   clear HO_11
                   clear HO_13
                   clear HB
                   have HO_8 := n0_
                   have HO_9 := n1_
                   have HO_10 := n2_
                   have HO_11 := n3_
                   have HO_13 := n4_
                   have HB := n5_
                   clear n0_ n1_ n2_ n3_ n4_ n5_
                   refine start_ (n := 22) (S := fun w' => True) (ds := []) #[false, false, false, false, false, false, false, false, false, false, false, false, false, false, false, false, false, false, false, false, false, false] (by kernel_rfl) rfl rfl trivial (fun hHeld => ?_); refine with_tabW miradorref15_Combine.tab16 miradorref15_Combine.bits16 (fun HT_ HW_ => ?_)
                   generalize w56.drew = w58 at HO_8 HO_9 HO_10 HO_11 HO_13 HB hHeld ⊢
                   refine pure_ (i := 0) (N := some 57) (v := ?_) (a' := ?_) #[true, false, false, false, false, false, false, false, false, false, false, false, false, false, false, false, false, false, false, false, false, false] rfl rfl (any_of HT_.out (by kernel_rfl)) (fun _ _ _ h => h) (Or.inl ⟨by rfl, ?_⟩) ?_ ?_
                   rotate_left
                   ·intro w'
                    go_simp
                    with_reducible rfl
                   rotate_left
                   ·simp only [Act.put, List.setIfInBounds_toArray, List.set_cons_zero, List.set_cons_succ, i64_w, i32_w]
                    rfl
                   refine pure_ (i := 1) (N := some 58) (v := ?_) (a' := ?_) #[true, true, false, false, false, false, false, false, false, false, false, false, false, false, false, false, false, false, false, false, false, false] rfl rfl (any_of HT_.out (by kernel_rfl)) (fun _ _ _ h => h) (Or.inl ⟨by rfl, ?_⟩) ?_ ?_
                   rotate_left
                   ·intro w'
                    go_simp
                    with_reducible rfl
                   rotate_left
                   ·simp only [Act.put, List.setIfInBounds_toArray, List.set_cons_zero, List.set_cons_succ, i64_w, i32_w]
                    rfl
                   refine pure_ (i := 2) (N := some 59) (v := ?_) (a' := ?_) #[true, true, true, false, false, false, false, false, false, false, false, false, false, false, false, false, false, false, false, false, false, false] rfl rfl (any_of HT_.out (by kernel_rfl)) (fun _ _ _ h => h) (Or.inl ⟨by rfl, ?_⟩) ?_ ?_
                   rotate_left
                   ·intro w'
                    go_simp
                    with_reducible rfl
                   rotate_left
                   ·simp only [Act.put, List.setIfInBounds_toArray, List.set_cons_zero, List.set_cons_succ, i64_w, i32_w]
                    rfl
                   refine pure_ (i := 3) (N := some 60) (v := undef) (a' := ?_) #[true, true, true, true, false, false, false, false, false, false, false, false, false, false, false, false, false, false, false, false, false, false] rfl rfl (any_of HT_.out (by kernel_rfl)) (fun _ _ _ h => h) (Or.inr ⟨by rfl, rfl⟩) ?_ ?_
                   rotate_left
                   ·simp only [Act.put, List.setIfInBounds_toArray, List.set_cons_zero, List.set_cons_succ, i64_w, i32_w]
                    rfl
                   refine pure_ (i := 4) (N := some 61) (v := undef) (a' := ?_) #[true, true, true, true, true, false, false, false, false, false, false, false, false, false, false, false, false, false, false, false, false, false] rfl rfl (any_of HT_.out (by kernel_rfl)) (fun _ _ _ h => h) (Or.inr ⟨by rfl, rfl⟩) ?_ ?_
                   rotate_left
                   ·simp only [Act.put, List.setIfInBounds_toArray, List.set_cons_zero, List.set_cons_succ, i64_w, i32_w]
                    rfl
                   refine pure_ (i := 5) (N := some 62) (v := undef) (a' := ?_) #[true, true, true, true, true, true, false, false, false, false, false, false, false, false, false, false, false, false, false, false, false, false] rfl rfl (any_of HT_.out (by kernel_rfl)) (fun _ _ _ h => h) (Or.inr ⟨by rfl, rfl⟩) ?_ ?_
                   rotate_left
                   ·simp only [Act.put, List.setIfInBounds_toArray, List.set_cons_zero, List.set_cons_succ, i64_w, i32_w]
                    rfl
                   refine pure_ (i := 6) (N := some 63) (v := undef) (a' := ?_) #[true, true, true, true, true, true, true, false, false, false, false, false, false, false, false, false, false, false, false, false, false, false] rfl rfl (any_of HT_.out (by kernel_rfl)) (fun _ _ _ h => h) (Or.inr ⟨by rfl, rfl⟩) ?_ ?_
                   rotate_left
                   ·simp only [Act.put, List.setIfInBounds_toArray, List.set_cons_zero, List.set_cons_succ, i64_w, i32_w]
                    rfl
                   refine pure_ (i := 7) (N := some 64) (v := undef) (a' := ?_) #[true, true, true, true, true, true, true, true, false, false, false, false, false, false, false, false, false, false, false, false, false, false] rfl rfl (any_of HT_.out (by kernel_rfl)) (fun _ _ _ h => h) (Or.inr ⟨by rfl, rfl⟩) ?_ ?_
                   rotate_left
                   ·simp only [Act.put, List.setIfInBounds_toArray, List.set_cons_zero, List.set_cons_succ, i64_w, i32_w]
                    rfl
                   refine pure_ (i := 8) (N := some 65) (v := undef) (a' := ?_) #[true, true, true, true, true, true, true, true, true, false, false, false, false, false, false, false, false, false, false, false, false, false] rfl rfl (any_of HT_.out (by kernel_rfl)) (fun _ _ _ h => h) (Or.inr ⟨by rfl, rfl⟩) ?_ ?_
                   rotate_left
                   ·simp only [Act.put, List.setIfInBounds_toArray, List.set_cons_zero, List.set_cons_succ, i64_w, i32_w]
                    rfl
                   refine pure_ (i := 9) (N := some 66) (v := undef) (a' := ?_) #[true, true, true, true, true, true, true, true, true, true, false, false, false, false, false, false, false, false, false, false, false, false] rfl rfl (any_of HT_.out (by kernel_rfl)) (fun _ _ _ h => h) (Or.inr ⟨by rfl, rfl⟩) ?_ ?_
                   rotate_left
                   ·simp only [Act.put, List.setIfInBounds_toArray, List.set_cons_zero, List.set_cons_succ, i64_w, i32_w]
                    rfl
                   refine pure_ (i := 10) (N := some 67) (v := undef) (a' := ?_) #[true, true, true, true, true, true, true, true, true, true, true, false, false, false, false, false, false, false, false, false, false, false] rfl rfl (any_of HT_.out (by kernel_rfl)) (fun _ _ _ h => h) (Or.inr ⟨by rfl, rfl⟩) ?_ ?_
                   rotate_left
                   ·simp only [Act.put, List.setIfInBounds_toArray, List.set_cons_zero, List.set_cons_succ, i64_w, i32_w]
                    rfl
                   refine pure_ (i := 11) (N := some 68) (v := undef) (a' := ?_) #[true, true, true, true, true, true, true, true, true, true, true, true, false, false, false, false, false, false, false, false, false, false] rfl rfl (any_of HT_.out (by kernel_rfl)) (fun _ _ _ h => h) (Or.inr ⟨by rfl, rfl⟩) ?_ ?_
                   rotate_left
                   ·simp only [Act.put, List.setIfInBounds_toArray, List.set_cons_zero, List.set_cons_succ, i64_w, i32_w]
                    rfl
                   refine pure_ (i := 12) (N := some 69) (v := undef) (a' := ?_) #[true, true, true, true, true, true, true, true, true, true, true, true, true, false, false, false, false, false, false, false, false, false] rfl rfl (any_of HT_.out (by kernel_rfl)) (fun _ _ _ h => h) (Or.inr ⟨by rfl, rfl⟩) ?_ ?_
                   rotate_left
                   ·simp only [Act.put, List.setIfInBounds_toArray, List.set_cons_zero, List.set_cons_succ, i64_w, i32_w]
                    rfl
                   refine pure_ (i := 13) (N := some 70) (v := undef) (a' := ?_) #[true, true, true, true, true, true, true, true, true, true, true, true, true, true, false, false, false, false, false, false, false, false] rfl rfl (any_of HT_.out (by kernel_rfl)) (fun _ _ _ h => h) (Or.inr ⟨by rfl, rfl⟩) ?_ ?_
                   rotate_left
                   ·simp only [Act.put, List.setIfInBounds_toArray, List.set_cons_zero, List.set_cons_succ, i64_w, i32_w]
                    rfl
                   refine pure_ (i := 14) (N := some 71) (v := undef) (a' := ?_) #[true, true, true, true, true, true, true, true, true, true, true, true, true, true, true, false, false, false, false, false, false, false] rfl rfl (any_of HT_.out (by kernel_rfl)) (fun _ _ _ h => h) (Or.inr ⟨by rfl, rfl⟩) ?_ ?_
                   rotate_left
                   ·simp only [Act.put, List.setIfInBounds_toArray, List.set_cons_zero, List.set_cons_succ, i64_w, i32_w]
                    rfl
                   refine pure_ (i := 15) (N := some 72) (v := undef) (a' := ?_) #[true, true, true, true, true, true, true, true, true, true, true, true, true, true, true, true, false, false, false, false, false, false] rfl rfl (any_of HT_.out (by kernel_rfl)) (fun _ _ _ h => h) (Or.inr ⟨by rfl, rfl⟩) ?_ ?_
                   rotate_left
                   ·simp only [Act.put, List.setIfInBounds_toArray, List.set_cons_zero, List.set_cons_succ, i64_w, i32_w]
                    rfl
                   refine pure_ (i := 16) (N := some 73) (v := undef) (a' := ?_) #[true, true, true, true, true, true, true, true, true, true, true, true, true, true, true, true, true, false, false, false, false, false] rfl rfl (any_of HT_.out (by kernel_rfl)) (fun _ _ _ h => h) (Or.inr ⟨by rfl, rfl⟩) ?_ ?_
                   rotate_left
                   ·simp only [Act.put, List.setIfInBounds_toArray, List.set_cons_zero, List.set_cons_succ, i64_w, i32_w]
                    rfl
                   refine pure_ (i := 17) (N := some 74) (v := undef) (a' := ?_) #[true, true, true, true, true, true, true, true, true, true, true, true, true, true, true, true, true, true, false, false, false, false] rfl rfl (any_of HT_.out (by kernel_rfl)) (fun _ _ _ h => h) (Or.inr ⟨by rfl, rfl⟩) ?_ ?_
                   rotate_left
                   ·simp only [Act.put, List.setIfInBounds_toArray, List.set_cons_zero, List.set_cons_succ, i64_w, i32_w]
                    rfl
                   refine pure_ (i := 18) (N := some 75) (v := undef) (a' := ?_) #[true, true, true, true, true, true, true, true, true, true, true, true, true, true, true, true, true, true, true, false, false, false] rfl rfl (any_of HT_.out (by kernel_rfl)) (fun _ _ _ h => h) (Or.inr ⟨by rfl, rfl⟩) ?_ ?_
                   rotate_left
                   ·simp only [Act.put, List.setIfInBounds_toArray, List.set_cons_zero, List.set_cons_succ, i64_w, i32_w]
                    rfl
                   refine pure_ (i := 19) (N := some 76) (v := undef) (a' := ?_) #[true, true, true, true, true, true, true, true, true, true, true, true, true, true, true, true, true, true, true, true, false, false] rfl rfl (any_of HT_.out (by kernel_rfl)) (fun _ _ _ h => h) (Or.inr ⟨by rfl, rfl⟩) ?_ ?_
                   rotate_left
                   ·simp only [Act.put, List.setIfInBounds_toArray, List.set_cons_zero, List.set_cons_succ, i64_w, i32_w]
                    rfl
                   refine pure_ (i := 20) (N := some 77) (v := undef) (a' := ?_) #[true, true, true, true, true, true, true, true, true, true, true, true, true, true, true, true, true, true, true, true, true, false] rfl rfl (any_of HT_.out (by kernel_rfl)) (fun _ _ _ h => h) (Or.inr ⟨by rfl, rfl⟩) ?_ ?_
                   rotate_left
                   ·simp only [Act.put, List.setIfInBounds_toArray, List.set_cons_zero, List.set_cons_succ, i64_w, i32_w]
                    rfl
                   refine pure_ (i := 21) (N := some 78) (v := ?_) (a' := ?_) #[true, true, true, true, true, true, true, true, true, true, true, true, true, true, true, true, true, true, true, true, true, true] rfl rfl (any_of HT_.out (by kernel_rfl)) (fun _ _ _ h => h) (Or.inl ⟨by rfl, ?_⟩) ?_ ?_
                   rotate_left
                   ·intro w'
                    go_simp
                    with_reducible rfl
                   rotate_left
                   ·simp only [Act.put, List.setIfInBounds_toArray, List.set_cons_zero, List.set_cons_succ, i64_w, i32_w]
                    rfl
                   refine done_ (done_of HT_.out (by kernel_rfl)) ?_
                   try go_wp2
                   have n0_ := Aside0.mk (Kd.R_drew HO_8.out)
                   have n1_ := Aside0.mk (Kd.R_drew HO_9.out)
                   have n2_ := Aside0.mk (Kd.R_drew HO_10.out)
                   have n3_ := Aside0.mk (Kd.R_drew HO_11.out)
                   have n4_ := Aside0.mk (Kd.R_drew HO_13.out)
                   have n5_ := Aside0.mk (below_drew1 HB.out)
                   clear HO_8
                   clear HO_9
                   clear HO_10
                   clear HO_11
                   clear HO_13
                   clear HB
                   have HO_8 := n0_
                   have HO_9 := n1_
                   have HO_10 := n2_
                   have HO_11 := n3_
                   have HO_13 := n4_
                   have HB := n5_
                   clear n0_ n1_ n2_ n3_ n4_ n5_
                   have p407 : 0 ≤ (x14_2 : Int) := of_decide_eq_true (by first | (with_reducible assumption) | assumption)
                   have q407 : x14_2 < (t380.length : Int) := of_decide_eq_true (by first | (with_reducible assumption) | assumption)
                   obtain ⟨ad407, e407, hx407_0⟩ := Kd.at_int (Kd.R_reads' HO_8.out).2.2 x14_2 p407 q407
                   obtain rfl : ad389 = ad407 := (by injection e407)
                   replace p407 := eq_true p407
                   replace q407 := eq_true q407
                   have p408 : 0 ≤ (x12_1 : Int) := of_decide_eq_true (by first | (with_reducible assumption) | assumption)
                   have q408 : x12_1 < (t381.length : Int) := of_decide_eq_true (by first | (with_reducible assumption) | assumption)
                   obtain ⟨ad408, e408, hx408_0⟩ := Kd.at_int (Kd.R_reads' HO_9.out).2.2 x12_1 p408 q408
                   obtain rfl : ad390 = ad408 := (by injection e408)
                   replace p408 := eq_true p408
                   replace q408 := eq_true q408
                   have p409 : 0 ≤ ((ji48) : Int) := of_decide_eq_true (by first | (with_reducible assumption) | assumption)
                   have q409 : (ji48) < (t380.length : Int) := of_decide_eq_true (by first | (with_reducible assumption) | assumption)
                   obtain ⟨ad409, e409, hx409_0⟩ := Kd.at_int (Kd.R_reads' HO_8.out).2.2 (ji48) p409 q409
                   obtain rfl : ad389 = ad409 := (by injection e409)
                   replace p409 := eq_true p409
                   replace q409 := eq_true q409
                   have p410 : 0 ≤ (x14_2 : Int) := of_decide_eq_true (by first | (with_reducible assumption) | assumption)
                   have q410 : x14_2 < (t380.length : Int) := of_decide_eq_true (by first | (with_reducible assumption) | assumption)
                   obtain ⟨ad410, e410, hx410_0⟩ := Kd.at_int (Kd.R_reads' HO_8.out).2.2 x14_2 p410 q410
                   obtain rfl : ad389 = ad410 := (by injection e410)
                   replace p410 := eq_true p410
                   replace q410 := eq_true q410
                   have p411 : 0 ≤ ((ji50) : Int) := of_decide_eq_true (by first | (with_reducible assumption) | assumption)
                   have q411 : (ji50) < (t381.length : Int) := of_decide_eq_true (by first | (with_reducible assumption) | assumption)
                   obtain ⟨ad411, e411, hx411_0⟩ := Kd.at_int (Kd.R_reads' HO_9.out).2.2 (ji50) p411 q411
                   obtain rfl : ad390 = ad411 := (by injection e411)
                   replace p411 := eq_true p411
                   replace q411 := eq_true q411
                   have p412 : 0 ≤ (x12_1 : Int) := of_decide_eq_true (by first | (with_reducible assumption) | assumption)
                   have q412 : x12_1 < (t381.length : Int) := of_decide_eq_true (by first | (with_reducible assumption) | assumption)
                   obtain ⟨ad412, e412, hx412_0⟩ := Kd.at_int (Kd.R_reads' HO_9.out).2.2 x12_1 p412 q412
                   obtain rfl : ad390 = ad412 := (by injection e412)
                   replace p412 := eq_true p412
                   replace q412 := eq_true q412
                   refine start_ (n := 33) (S := fun w' => w'.cell? (ad389.add (x14_2).toNat) = some (.int .i64 (rd t380 x14_2)) ∧ w'.cell? (ad390.add (x12_1).toNat) = some (.int .i64 (rd t381 x12_1)) ∧ w'.cell? (ad389.add ((ji48)).toNat) = some (.int .i64 (rd t380 (ji48))) ∧ w'.cell? (ad389.add (x14_2).toNat) = some (.int .i64 (rd t380 x14_2)) ∧ w'.cell? (ad390.add ((ji50)).toNat) = some (.int .i64 (rd t381 (ji50))) ∧ w'.cell? (ad390.add (x12_1).toNat) = some (.int .i64 (rd t381 x12_1))) (ds := [30, 31]) #[false, false, false, false, false, false, false, false, false, false, false, false, false, false, false, false, false, false, false, false, false, false, false, false, false, false, false, false, false, false, false, false, false] (by kernel_rfl) rfl rfl ⟨hx407_0, hx408_0, hx409_0, hx410_0, hx411_0, hx412_0⟩ (fun hHeld => ?_); refine with_tabW miradorref15_Combine.tab18 miradorref15_Combine.bits18 (fun HT_ HW_ => ?_)
                   generalize w58.drew = w59 at HO_8 HO_9 HO_10 HO_11 HO_13 HB hx407_0 hx408_0 hx409_0 hx410_0 hx411_0 hx412_0 hHeld ⊢
                   refine pure_ (i := 0) (N := some 96) (v := ?_) (a' := ?_) #[true, false, false, false, false, false, false, false, false, false, false, false, false, false, false, false, false, false, false, false, false, false, false, false, false, false, false, false, false, false, false, false, false] rfl rfl (any_of HT_.out (by kernel_rfl)) (fun _ _ _ h => h) (Or.inl ⟨by rfl, ?_⟩) ?_ ?_
                   rotate_left
                   ·intro w'
                    go_simp
                    with_reducible rfl
                   rotate_left
                   ·simp only [Act.put, List.setIfInBounds_toArray, List.set_cons_zero, List.set_cons_succ, i64_w, i32_w]
                    rfl
                   refine pure_ (i := 1) (N := some 97) (v := ?_) (a' := ?_) #[true, true, false, false, false, false, false, false, false, false, false, false, false, false, false, false, false, false, false, false, false, false, false, false, false, false, false, false, false, false, false, false, false] rfl rfl (any_of HT_.out (by kernel_rfl)) (fun _ _ _ h => h) (Or.inl ⟨by rfl, ?_⟩) ?_ ?_
                   rotate_left
                   ·intro w'
                    go_simp
                    with_reducible rfl
                   rotate_left
                   ·simp only [Act.put, List.setIfInBounds_toArray, List.set_cons_zero, List.set_cons_succ, i64_w, i32_w]
                    rfl
                   refine pure_ (i := 2) (N := some 98) (v := ?_) (a' := ?_) #[true, true, true, false, false, false, false, false, false, false, false, false, false, false, false, false, false, false, false, false, false, false, false, false, false, false, false, false, false, false, false, false, false] rfl rfl (any_of HT_.out (by kernel_rfl)) (fun _ _ _ h => h) (Or.inl ⟨by rfl, ?_⟩) ?_ ?_
                   rotate_left
                   ·intro w'
                    go_simp
                    with_reducible rfl
                   rotate_left
                   ·simp only [Act.put, List.setIfInBounds_toArray, List.set_cons_zero, List.set_cons_succ, i64_w, i32_w]
                    rfl
                   refine pure_ (i := 3) (N := some 99) (v := ?_) (a' := ?_) #[true, true, true, true, false, false, false, false, false, false, false, false, false, false, false, false, false, false, false, false, false, false, false, false, false, false, false, false, false, false, false, false, false] rfl rfl (any_of HT_.out (by kernel_rfl)) (fun _ _ _ h => h) (Or.inl ⟨by rfl, ?_⟩) ?_ ?_
                   rotate_left
                   ·intro w'
                    go_simp
                    with_reducible rfl
                   rotate_left
                   ·simp only [Act.put, List.setIfInBounds_toArray, List.set_cons_zero, List.set_cons_succ, i64_w, i32_w]
                    rfl
                   refine pure_ (i := 5) (N := some 101) (v := ?_) (a' := ?_) #[true, true, true, true, false, true, false, false, false, false, false, false, false, false, false, false, false, false, false, false, false, false, false, false, false, false, false, false, false, false, false, false, false] rfl rfl (any_of HT_.out (by kernel_rfl)) (fun _ _ _ h => h) (Or.inl ⟨by rfl, ?_⟩) ?_ ?_
                   rotate_left
                   ·intro w'
                    go_simp
                    with_reducible rfl
                   rotate_left
                   ·simp only [Act.put, List.setIfInBounds_toArray, List.set_cons_zero, List.set_cons_succ, i64_w, i32_w]
                    rfl
                   refine pure_ (i := 6) (N := some 102) (v := ?_) (a' := ?_) #[true, true, true, true, false, true, true, false, false, false, false, false, false, false, false, false, false, false, false, false, false, false, false, false, false, false, false, false, false, false, false, false, false] rfl rfl (any_of HT_.out (by kernel_rfl)) (fun _ _ _ h => h) (Or.inl ⟨by rfl, ?_⟩) ?_ ?_
                   rotate_left
                   ·intro w'
                    go_simp
                    with_reducible rfl
                   rotate_left
                   ·simp only [Act.put, List.setIfInBounds_toArray, List.set_cons_zero, List.set_cons_succ, i64_w, i32_w]
                    rfl
                   refine pure_ (i := 7) (N := some 103) (v := ?_) (a' := ?_) #[true, true, true, true, false, true, true, true, false, false, false, false, false, false, false, false, false, false, false, false, false, false, false, false, false, false, false, false, false, false, false, false, false] rfl rfl (any_of HT_.out (by kernel_rfl)) (fun _ _ _ h => h) (Or.inl ⟨by rfl, ?_⟩) ?_ ?_
                   rotate_left
                   ·intro w'
                    go_simp
                    with_reducible rfl
                   rotate_left
                   ·simp only [Act.put, List.setIfInBounds_toArray, List.set_cons_zero, List.set_cons_succ, i64_w, i32_w]
                    rfl
                   refine pure_ (i := 9) (N := some 105) (v := ?_) (a' := ?_) #[true, true, true, true, false, true, true, true, false, true, false, false, false, false, false, false, false, false, false, false, false, false, false, false, false, false, false, false, false, false, false, false, false] rfl rfl (any_of HT_.out (by kernel_rfl)) (fun _ _ _ h => h) (Or.inl ⟨by rfl, ?_⟩) ?_ ?_
                   rotate_left
                   ·intro w'
                    go_simp
                    with_reducible rfl
                   rotate_left
                   ·simp only [Act.put, List.setIfInBounds_toArray, List.set_cons_zero, List.set_cons_succ, i64_w, i32_w]
                    rfl
                   refine pure_ (i := 10) (N := some 106) (v := ?_) (a' := ?_) #[true, true, true, true, false, true, true, true, false, true, true, false, false, false, false, false, false, false, false, false, false, false, false, false, false, false, false, false, false, false, false, false, false] rfl rfl (any_of HT_.out (by kernel_rfl)) (fun _ _ _ h => h) (Or.inl ⟨by rfl, ?_⟩) ?_ ?_
                   rotate_left
                   ·intro w'
                    go_simp
                    with_reducible rfl
                   rotate_left
                   ·simp only [Act.put, List.setIfInBounds_toArray, List.set_cons_zero, List.set_cons_succ, i64_w, i32_w]
                    rfl
                   refine pure_ (i := 11) (N := some 107) (v := ?_) (a' := ?_) #[true, true, true, true, false, true, true, true, false, true, true, true, false, false, false, false, false, false, false, false, false, false, false, false, false, false, false, false, false, false, false, false, false] rfl rfl (any_of HT_.out (by kernel_rfl)) (fun _ _ _ h => h) (Or.inl ⟨by rfl, ?_⟩) ?_ ?_
                   rotate_left
                   ·intro w'
                    go_simp
                    with_reducible rfl
                   rotate_left
                   ·simp only [Act.put, List.setIfInBounds_toArray, List.set_cons_zero, List.set_cons_succ, i64_w, i32_w]
                    rfl
                   refine pure_ (i := 12) (N := some 108) (v := ?_) (a' := ?_) #[true, true, true, true, false, true, true, true, false, true, true, true, true, false, false, false, false, false, false, false, false, false, false, false, false, false, false, false, false, false, false, false, false] rfl rfl (any_of HT_.out (by kernel_rfl)) (fun _ _ _ h => h) (Or.inl ⟨by rfl, ?_⟩) ?_ ?_
                   rotate_left
                   ·intro w'
                    go_simp
                    with_reducible rfl
                   rotate_left
                   ·simp only [Act.put, List.setIfInBounds_toArray, List.set_cons_zero, List.set_cons_succ, i64_w, i32_w]
                    rfl
                   refine pure_ (i := 14) (N := some 110) (v := ?_) (a' := ?_) #[true, true, true, true, false, true, true, true, false, true, true, true, true, false, true, false, false, false, false, false, false, false, false, false, false, false, false, false, false, false, false, false, false] rfl rfl (any_of HT_.out (by kernel_rfl)) (fun _ _ _ h => h) (Or.inl ⟨by rfl, ?_⟩) ?_ ?_
                   rotate_left
                   ·intro w'
                    go_simp
                    with_reducible rfl
                   rotate_left
                   ·simp only [Act.put, List.setIfInBounds_toArray, List.set_cons_zero, List.set_cons_succ, i64_w, i32_w]
                    rfl
                   refine pure_ (i := 15) (N := some 111) (v := ?_) (a' := ?_) #[true, true, true, true, false, true, true, true, false, true, true, true, true, false, true, true, false, false, false, false, false, false, false, false, false, false, false, false, false, false, false, false, false] rfl rfl (any_of HT_.out (by kernel_rfl)) (fun _ _ _ h => h) (Or.inl ⟨by rfl, ?_⟩) ?_ ?_
                   rotate_left
                   ·intro w'
                    go_simp
                    with_reducible rfl
                   rotate_left
                   ·simp only [Act.put, List.setIfInBounds_toArray, List.set_cons_zero, List.set_cons_succ, i64_w, i32_w]
                    rfl
                   refine pure_ (i := 16) (N := some 112) (v := ?_) (a' := ?_) #[true, true, true, true, false, true, true, true, false, true, true, true, true, false, true, true, true, false, false, false, false, false, false, false, false, false, false, false, false, false, false, false, false] rfl rfl (any_of HT_.out (by kernel_rfl)) (fun _ _ _ h => h) (Or.inl ⟨by rfl, ?_⟩) ?_ ?_
                   rotate_left
                   ·intro w'
                    go_simp
                    with_reducible rfl
                   rotate_left
                   ·simp only [Act.put, List.setIfInBounds_toArray, List.set_cons_zero, List.set_cons_succ, i64_w, i32_w]
                    rfl
                   refine pure_ (i := 19) (N := some 115) (v := ?_) (a' := ?_) #[true, true, true, true, false, true, true, true, false, true, true, true, true, false, true, true, true, false, false, true, false, false, false, false, false, false, false, false, false, false, false, false, false] rfl rfl (any_of HT_.out (by kernel_rfl)) (fun _ _ _ h => h) (Or.inl ⟨by rfl, ?_⟩) ?_ ?_
                   rotate_left
                   ·intro w'
                    go_simp
                    with_reducible rfl
                   rotate_left
                   ·simp only [Act.put, List.setIfInBounds_toArray, List.set_cons_zero, List.set_cons_succ, i64_w, i32_w]
                    rfl
                   refine pure_ (i := 20) (N := some 116) (v := ?_) (a' := ?_) #[true, true, true, true, false, true, true, true, false, true, true, true, true, false, true, true, true, false, false, true, true, false, false, false, false, false, false, false, false, false, false, false, false] rfl rfl (any_of HT_.out (by kernel_rfl)) (fun _ _ _ h => h) (Or.inl ⟨by rfl, ?_⟩) ?_ ?_
                   rotate_left
                   ·intro w'
                    go_simp
                    with_reducible rfl
                   rotate_left
                   ·simp only [Act.put, List.setIfInBounds_toArray, List.set_cons_zero, List.set_cons_succ, i64_w, i32_w]
                    rfl
                   refine pure_ (i := 21) (N := some 117) (v := ?_) (a' := ?_) #[true, true, true, true, false, true, true, true, false, true, true, true, true, false, true, true, true, false, false, true, true, true, false, false, false, false, false, false, false, false, false, false, false] rfl rfl (any_of HT_.out (by kernel_rfl)) (fun _ _ _ h => h) (Or.inl ⟨by rfl, ?_⟩) ?_ ?_
                   rotate_left
                   ·intro w'
                    go_simp
                    with_reducible rfl
                   rotate_left
                   ·simp only [Act.put, List.setIfInBounds_toArray, List.set_cons_zero, List.set_cons_succ, i64_w, i32_w]
                    rfl
                   refine pure_ (i := 22) (N := some 118) (v := ?_) (a' := ?_) #[true, true, true, true, false, true, true, true, false, true, true, true, true, false, true, true, true, false, false, true, true, true, true, false, false, false, false, false, false, false, false, false, false] rfl rfl (any_of HT_.out (by kernel_rfl)) (fun _ _ _ h => h) (Or.inl ⟨by rfl, ?_⟩) ?_ ?_
                   rotate_left
                   ·intro w'
                    go_simp
                    with_reducible rfl
                   rotate_left
                   ·simp only [Act.put, List.setIfInBounds_toArray, List.set_cons_zero, List.set_cons_succ, i64_w, i32_w]
                    rfl
                   refine pure_ (i := 24) (N := some 120) (v := ?_) (a' := ?_) #[true, true, true, true, false, true, true, true, false, true, true, true, true, false, true, true, true, false, false, true, true, true, true, false, true, false, false, false, false, false, false, false, false] rfl rfl (any_of HT_.out (by kernel_rfl)) (fun _ _ _ h => h) (Or.inl ⟨by rfl, ?_⟩) ?_ ?_
                   rotate_left
                   ·intro w'
                    go_simp
                    with_reducible rfl
                   rotate_left
                   ·simp only [Act.put, List.setIfInBounds_toArray, List.set_cons_zero, List.set_cons_succ, i64_w, i32_w]
                    rfl
                   refine pure_ (i := 25) (N := some 121) (v := ?_) (a' := ?_) #[true, true, true, true, false, true, true, true, false, true, true, true, true, false, true, true, true, false, false, true, true, true, true, false, true, true, false, false, false, false, false, false, false] rfl rfl (any_of HT_.out (by kernel_rfl)) (fun _ _ _ h => h) (Or.inl ⟨by rfl, ?_⟩) ?_ ?_
                   rotate_left
                   ·intro w'
                    go_simp
                    with_reducible rfl
                   rotate_left
                   ·simp only [Act.put, List.setIfInBounds_toArray, List.set_cons_zero, List.set_cons_succ, i64_w, i32_w]
                    rfl
                   refine pure_ (i := 26) (N := some 122) (v := ?_) (a' := ?_) #[true, true, true, true, false, true, true, true, false, true, true, true, true, false, true, true, true, false, false, true, true, true, true, false, true, true, true, false, false, false, false, false, false] rfl rfl (any_of HT_.out (by kernel_rfl)) (fun _ _ _ h => h) (Or.inl ⟨by rfl, ?_⟩) ?_ ?_
                   rotate_left
                   ·intro w'
                    go_simp
                    with_reducible rfl
                   rotate_left
                   ·simp only [Act.put, List.setIfInBounds_toArray, List.set_cons_zero, List.set_cons_succ, i64_w, i32_w]
                    rfl
                   refine take_ (i := 4) (N := some 100) (v := ?_) (a' := ?_) #[true, true, true, true, true, true, true, true, false, true, true, true, true, false, true, true, true, false, false, true, true, true, true, false, true, true, true, false, false, false, false, false, false] rfl rfl (take_ofW HT_.out HW_.out (by kernel_rfl)) (fun _ _ _ h => h) (Or.inl ⟨by rfl, ?_⟩) hHeld ?_ ?_
                   rotate_left
                   ·rintro w' ⟨s0, s1, s2, s3, s4, s5⟩
                    go_simp
                    with_reducible rfl
                   rotate_left
                   ·simp only [Act.put, List.setIfInBounds_toArray, List.set_cons_zero, List.set_cons_succ, i64_w, i32_w]
                    rfl
                   refine take_ (i := 8) (N := some 104) (v := ?_) (a' := ?_) #[true, true, true, true, true, true, true, true, true, true, true, true, true, false, true, true, true, false, false, true, true, true, true, false, true, true, true, false, false, false, false, false, false] rfl rfl (take_ofW HT_.out HW_.out (by kernel_rfl)) (fun _ _ _ h => h) (Or.inl ⟨by rfl, ?_⟩) hHeld ?_ ?_
                   rotate_left
                   ·rintro w' ⟨s0, s1, s2, s3, s4, s5⟩
                    go_simp
                    with_reducible rfl
                   rotate_left
                   ·simp only [Act.put, List.setIfInBounds_toArray, List.set_cons_zero, List.set_cons_succ, i64_w, i32_w]
                    rfl
                   refine take_ (i := 13) (N := some 109) (v := ?_) (a' := ?_) #[true, true, true, true, true, true, true, true, true, true, true, true, true, true, true, true, true, false, false, true, true, true, true, false, true, true, true, false, false, false, false, false, false] rfl rfl (take_ofW HT_.out HW_.out (by kernel_rfl)) (fun _ _ _ h => h) (Or.inl ⟨by rfl, ?_⟩) hHeld ?_ ?_
                   rotate_left
                   ·rintro w' ⟨s0, s1, s2, s3, s4, s5⟩
                    go_simp
                    with_reducible rfl
                   rotate_left
                   ·simp only [Act.put, List.setIfInBounds_toArray, List.set_cons_zero, List.set_cons_succ, i64_w, i32_w]
                    rfl
                   refine take_ (i := 17) (N := some 113) (v := ?_) (a' := ?_) #[true, true, true, true, true, true, true, true, true, true, true, true, true, true, true, true, true, true, false, true, true, true, true, false, true, true, true, false, false, false, false, false, false] rfl rfl (take_ofW HT_.out HW_.out (by kernel_rfl)) (fun _ _ _ h => h) (Or.inl ⟨by rfl, ?_⟩) hHeld ?_ ?_
                   rotate_left
                   ·rintro w' ⟨s0, s1, s2, s3, s4, s5⟩
                    go_simp
                    with_reducible rfl
                   rotate_left
                   ·simp only [Act.put, List.setIfInBounds_toArray, List.set_cons_zero, List.set_cons_succ, i64_w, i32_w]
                    rfl
                   refine pure_ (i := 18) (N := some 114) (v := ?_) (a' := ?_) #[true, true, true, true, true, true, true, true, true, true, true, true, true, true, true, true, true, true, true, true, true, true, true, false, true, true, true, false, false, false, false, false, false] rfl rfl (any_of HT_.out (by kernel_rfl)) (fun _ _ _ h => h) (Or.inl ⟨by rfl, ?_⟩) ?_ ?_
                   rotate_left
                   ·intro w'
                    go_simp
                    with_reducible rfl
                   rotate_left
                   ·simp only [Act.put, List.setIfInBounds_toArray, List.set_cons_zero, List.set_cons_succ, i64_w, i32_w]
                    rfl
                   refine take_ (i := 23) (N := some 119) (v := ?_) (a' := ?_) #[true, true, true, true, true, true, true, true, true, true, true, true, true, true, true, true, true, true, true, true, true, true, true, true, true, true, true, false, false, false, false, false, false] rfl rfl (take_ofW HT_.out HW_.out (by kernel_rfl)) (fun _ _ _ h => h) (Or.inl ⟨by rfl, ?_⟩) hHeld ?_ ?_
                   rotate_left
                   ·rintro w' ⟨s0, s1, s2, s3, s4, s5⟩
                    go_simp
                    with_reducible rfl
                   rotate_left
                   ·simp only [Act.put, List.setIfInBounds_toArray, List.set_cons_zero, List.set_cons_succ, i64_w, i32_w]
                    rfl
                   refine take_ (i := 27) (N := some 123) (v := ?_) (a' := ?_) #[true, true, true, true, true, true, true, true, true, true, true, true, true, true, true, true, true, true, true, true, true, true, true, true, true, true, true, true, false, false, false, false, false] rfl rfl (take_ofW HT_.out HW_.out (by kernel_rfl)) (fun _ _ _ h => h) (Or.inl ⟨by rfl, ?_⟩) hHeld ?_ ?_
                   rotate_left
                   ·rintro w' ⟨s0, s1, s2, s3, s4, s5⟩
                    go_simp
                    with_reducible rfl
                   rotate_left
                   ·simp only [Act.put, List.setIfInBounds_toArray, List.set_cons_zero, List.set_cons_succ, i64_w, i32_w]
                    rfl
                   refine pure_ (i := 28) (N := some 124) (v := ?_) (a' := ?_) #[true, true, true, true, true, true, true, true, true, true, true, true, true, true, true, true, true, true, true, true, true, true, true, true, true, true, true, true, true, false, false, false, false] rfl rfl (any_of HT_.out (by kernel_rfl)) (fun _ _ _ h => h) (Or.inl ⟨by rfl, ?_⟩) ?_ ?_
                   rotate_left
                   ·intro w'
                    go_simp
                    with_reducible rfl
                   rotate_left
                   ·simp only [Act.put, List.setIfInBounds_toArray, List.set_cons_zero, List.set_cons_succ, i64_w, i32_w]
                    rfl
                   refine pure_ (i := 29) (N := some 125) (v := ?_) (a' := ?_) #[true, true, true, true, true, true, true, true, true, true, true, true, true, true, true, true, true, true, true, true, true, true, true, true, true, true, true, true, true, true, false, false, false] rfl rfl (any_of HT_.out (by kernel_rfl)) (fun _ _ _ h => h) (Or.inl ⟨by rfl, ?_⟩) ?_ ?_
                   rotate_left
                   ·intro w'
                    go_simp
                    with_reducible rfl
                   rotate_left
                   ·simp only [Act.put, List.setIfInBounds_toArray, List.set_cons_zero, List.set_cons_succ, i64_w, i32_w]
                    rfl
                   refine last_ (i := 30) (N := some 126) #[true, true, true, true, true, true, true, true, true, true, true, true, true, true, true, true, true, true, true, true, true, true, true, true, true, true, true, true, true, true, true, false, false] rfl rfl (one_of HT_.out (by kernel_rfl)) (by decide) (fun K hK => ?_)
                   refine value_ (w1 := ?_) (v := ?_) (by rfl) rfl ?_ ?_
                   rotate_left 2
                   ·go_simp
                    constructor
                    ·rfl
                    ·rfl
                   refine hK.out _ _ ?_
                   clear hK K
                   refine norm_ (a' := ?_) ?_ ?_
                   rotate_left
                   ·show Act.put _ (some 126) _ = _
                    simp only [Act.put, List.setIfInBounds_toArray, List.set_cons_zero, List.set_cons_succ, i64_w, i32_w]
                    rfl
                   refine last_ (i := 31) (N := some 127) #[true, true, true, true, true, true, true, true, true, true, true, true, true, true, true, true, true, true, true, true, true, true, true, true, true, true, true, true, true, true, true, true, false] rfl rfl (one_of HT_.out (by kernel_rfl)) (by decide) (fun K hK => ?_)
                   refine Kd.R_append_step k26 (w0 := w) w.heap.size (by rfl) (.tmp 96) (.tmp 126) 22 26 (.agg #[(.int .i64 0), (.int .i64 0), (.int .i64 0), (.int .i64 0)]) 32 rfl Try.underlying22 info26 rfl (by decide) (by omega) (.slice Ao57 x13_2.length co57) x13_2 (⟨rd t380 x14_2, rd t381 x12_1, wrap64 ((rd t380 (ji48)) - (rd t380 x14_2)), wrap64 ((rd t381 (ji50)) - (rd t381 x12_1))⟩ : S26) [.int .i64 (rd t380 x14_2), .int .i64 (rd t381 x12_1), .int .i64 (wrap64 ((rd t380 (ji48)) - (rd t380 x14_2))), .int .i64 (wrap64 ((rd t381 (ji50)) - (rd t381 x12_1)))] (fun k_ => some k_ ≠ (u10 : Value).ownBlock ∧ some k_ ≠ (u11 : Value).ownBlock) (fun _ => False) rfl rfl ?aP (fun _ hk => hk.elim) ?aF ?aO ?aB ?aS ?aL ?_
                   (case aP => exact k26_mkM _ _ _ (⟨rd t380 x14_2, rd t381 x12_1, wrap64 ((rd t380 (ji48)) - (rd t380 x14_2)), wrap64 ((rd t381 (ji50)) - (rd t381 x12_1))⟩ : S26))
                   (case aB => exact (by repeat (first | (with_reducible first | exact HB.out | apply below_alloc | apply pw_below_drewN | apply below_drew1) | exact HB.out)))
                   (case aF => exact (fun k_ hk => ⟨Kd.fresh' (Kd.R_lt (by (with_reducible repeat (first | apply Kd.R_alloc | apply Kd.R_drewN | apply Kd.R_drew)); exact HO_10.out)) k_ hk, Kd.fresh' (Kd.R_lt (by (with_reducible repeat (first | apply Kd.R_alloc | apply Kd.R_drewN | apply Kd.R_drew)); exact HO_11.out)) k_ hk⟩))
                   (case aO => exact (by (with_reducible repeat (first | apply Kd.R_alloc | apply Kd.R_drewN | apply Kd.R_drew)); exact HO_13.out))
                   (case aS => exact (below_size (by repeat (first | (with_reducible first | exact HB.out | apply below_alloc | apply pw_below_drewN | apply below_drew1) | exact HB.out))))
                   (case aL => have := LMc53.out; omega)
                   intro v414 w60 ho hb hg hat
                   rw [← Ny413.out] at ho
                   have n0_ := Aside0.mk (Kd.R_over' (by (with_reducible repeat (first | apply Kd.R_alloc | apply Kd.R_drewN | apply Kd.R_drew)); exact HO_8.out) (Kd.R_typed (by (with_reducible repeat (first | apply Kd.R_alloc | apply Kd.R_drewN | apply Kd.R_drew)); exact HO_13.out)) (by decide) hg)
                   have n1_ := Aside0.mk (Kd.R_over' (by (with_reducible repeat (first | apply Kd.R_alloc | apply Kd.R_drewN | apply Kd.R_drew)); exact HO_9.out) (Kd.R_typed (by (with_reducible repeat (first | apply Kd.R_alloc | apply Kd.R_drewN | apply Kd.R_drew)); exact HO_13.out)) (by decide) hg)
                   have n2_ := Aside0.mk (Kd.R_after (ok := (fun k_ => some k_ ≠ (u11 : Value).ownBlock)) (by (with_reducible repeat (first | apply Kd.R_alloc | apply Kd.R_drewN | apply Kd.R_drew)); exact HO_10.out) hg hat)
                   have n3_ := Aside0.mk (Kd.R_after (ok := (fun k_ => some k_ ≠ (u10 : Value).ownBlock)) (by (with_reducible repeat (first | apply Kd.R_alloc | apply Kd.R_drewN | apply Kd.R_drew)); exact HO_11.out) hg hat)
                   have n4_ := Aside0.mk (hb)
                   have n5_ := Aside0.mk (ho)
                   clear HO_8
                   clear HO_9
                   clear HO_10
                   clear HO_11
                   clear HB
                   clear HO_13
                   have HO_8 := n0_
                   have HO_9 := n1_
                   have HO_10 := n2_
                   have HO_11 := n3_
                   have HB := n4_
                   have HO415 := n5_
                   clear n0_ n1_ n2_ n3_ n4_ n5_
                   clear ho hb hg hat
                   refine hK.out _ _ ?_
                   clear hK K
                   refine norm_ (a' := ?_) ?_ ?_
                   rotate_left
                   ·show Act.put _ (some 127) _ = _
                    simp only [Act.put, List.setIfInBounds_toArray, List.set_cons_zero, List.set_cons_succ, i64_w, i32_w]
                    rfl
                   refine pure_ (i := 32) (N := some 13) (v := ?_) (a' := ?_) #[true, true, true, true, true, true, true, true, true, true, true, true, true, true, true, true, true, true, true, true, true, true, true, true, true, true, true, true, true, true, true, true, true] rfl rfl (any_of HT_.out (by kernel_rfl)) (fun _ _ _ h => h) (Or.inl ⟨by rfl, ?_⟩) ?_ ?_
                   rotate_left
                   ·intro w'
                    go_simp
                    with_reducible rfl
                   rotate_left
                   ·simp only [Act.put, List.setIfInBounds_toArray, List.set_cons_zero, List.set_cons_succ, i64_w, i32_w]
                    rfl
                   refine done_ (done_of HT_.out (by kernel_rfl)) ?_
                   try go_wp2
                   (try simp only [← hji50])
                   go_roundg k2
                   case measure => have := HK1.out; have := HK2.out; omega
                   case rel => exact ⟨(x10_2), (x11_2), (y413), (ji48), (by first | rfl | (simp; done) | (simp only [← hji48] <;> (first | rfl | simp)) | (simp [*]; done)), H', ⟨by have := HK1.out; have := HK2.out; omega⟩, ⟨by (with_reducible repeat (first | apply Kd.R_alloc | apply Kd.R_drewN | apply Kd.R_drew)); exact HO_8.out⟩, ⟨by (with_reducible repeat (first | apply Kd.R_alloc | apply Kd.R_drewN | apply Kd.R_drew)); exact HO_9.out⟩, ⟨by (with_reducible repeat (first | apply Kd.R_alloc | apply Kd.R_drewN | apply Kd.R_drew)); exact HO_10.out⟩, ⟨by (with_reducible repeat (first | apply Kd.R_alloc | apply Kd.R_drewN | apply Kd.R_drew)); exact HO_11.out⟩, ⟨by (with_reducible repeat (first | apply Kd.R_alloc | apply Kd.R_drewN | apply Kd.R_drew)); exact HO415.out⟩, ⟨by repeat (first | (with_reducible first | exact HB.out | apply below_alloc | apply pw_below_drewN | apply below_drew1) | exact HB.out)⟩⟩
                  ·rw [if_neg c53] at H
                   exact absurd H (by simp)
                 ·rw [if_neg c52] at H
                  exact absurd H (by simp)
                ·rw [if_neg c51] at H
                 exact absurd H (by simp)
               ·rw [if_neg c49] at H
                exact absurd H (by simp)
             ·replace c19 := Bool.eq_false_iff.mpr c19
              subst c19
              have H1 : (miradorref15_Combine.l1 k2 a0 l1 l2 t380 t381 x10_2 x11_2 x12_1 x13_2 (wrap64 (x14_2 + 1))) = some r := by rw [if_neg (show ¬ (false = true) by decide)] at H; exact H
              clear H
              have H := H1
              clear H1
              have H' := Aside0.mk H
              clear H
              obtain ⟨Ao61, co61, eo61⟩ := Kd.R_slice HO_8.out
              subst eo61
              try go_wp2
              have n0_ := Aside0.mk (Kd.R_drew HO_8.out)
              have n1_ := Aside0.mk (Kd.R_drew HO_9.out)
              have n2_ := Aside0.mk (Kd.R_drew HO_10.out)
              have n3_ := Aside0.mk (Kd.R_drew HO_11.out)
              have n4_ := Aside0.mk (Kd.R_drew HO_13.out)
              have n5_ := Aside0.mk (below_drew1 HB.out)
              clear HO_8
              clear HO_9
              clear HO_10
              clear HO_11
              clear HO_13
              clear HB
              have HO_8 := n0_
              have HO_9 := n1_
              have HO_10 := n2_
              have HO_11 := n3_
              have HO_13 := n4_
              have HB := n5_
              clear n0_ n1_ n2_ n3_ n4_ n5_
              have p389 : 0 ≤ (x14_2 : Int) := of_decide_eq_true (by first | (with_reducible assumption) | assumption)
              have q389 : x14_2 < (t380.length : Int) := of_decide_eq_true (by first | (with_reducible assumption) | assumption)
              obtain ⟨ad389, e389, hx389_0⟩ := Kd.at_int (Kd.R_reads' HO_8.out).2.2 x14_2 p389 q389
              cases e389
              replace p389 := eq_true p389
              replace q389 := eq_true q389
              have p390 : 0 ≤ (x12_1 : Int) := of_decide_eq_true (by first | (with_reducible assumption) | assumption)
              have q390 : x12_1 < (t381.length : Int) := of_decide_eq_true (by first | (with_reducible assumption) | assumption)
              obtain ⟨ad390, e390, hx390_0⟩ := Kd.at_int (Kd.R_reads' HO_9.out).2.2 x12_1 p390 q390
              cases e390
              replace p390 := eq_true p390
              replace q390 := eq_true q390
              refine start_ (n := 13) (S := fun w' => w'.cell? (ad389.add (x14_2).toNat) = some (.int .i64 (rd t380 x14_2)) ∧ w'.cell? (ad390.add (x12_1).toNat) = some (.int .i64 (rd t381 x12_1))) (ds := []) #[false, false, false, false, false, false, false, false, false, false, false, false, false] (by kernel_rfl) rfl rfl ⟨hx389_0, hx390_0⟩ (fun hHeld => ?_); refine with_tabW miradorref15_Combine.tab14 miradorref15_Combine.bits14 (fun HT_ HW_ => ?_)
              generalize wr.drew = w62 at HO_8 HO_9 HO_10 HO_11 HO_13 HB hx389_0 hx390_0 hHeld ⊢
              refine pure_ (i := 0) (N := some 42) (v := ?_) (a' := ?_) #[true, false, false, false, false, false, false, false, false, false, false, false, false] rfl rfl (any_of HT_.out (by kernel_rfl)) (fun _ _ _ h => h) (Or.inl ⟨by rfl, ?_⟩) ?_ ?_
              rotate_left
              ·intro w'
               go_simp
               with_reducible rfl
              rotate_left
              ·simp only [Act.put, List.setIfInBounds_toArray, List.set_cons_zero, List.set_cons_succ, i64_w, i32_w]
               rfl
              refine pure_ (i := 1) (N := some 43) (v := ?_) (a' := ?_) #[true, true, false, false, false, false, false, false, false, false, false, false, false] rfl rfl (any_of HT_.out (by kernel_rfl)) (fun _ _ _ h => h) (Or.inl ⟨by rfl, ?_⟩) ?_ ?_
              rotate_left
              ·intro w'
               go_simp
               with_reducible rfl
              rotate_left
              ·simp only [Act.put, List.setIfInBounds_toArray, List.set_cons_zero, List.set_cons_succ, i64_w, i32_w]
               rfl
              refine pure_ (i := 2) (N := some 44) (v := ?_) (a' := ?_) #[true, true, true, false, false, false, false, false, false, false, false, false, false] rfl rfl (any_of HT_.out (by kernel_rfl)) (fun _ _ _ h => h) (Or.inl ⟨by rfl, ?_⟩) ?_ ?_
              rotate_left
              ·intro w'
               go_simp
               with_reducible rfl
              rotate_left
              ·simp only [Act.put, List.setIfInBounds_toArray, List.set_cons_zero, List.set_cons_succ, i64_w, i32_w]
               rfl
              refine pure_ (i := 3) (N := some 45) (v := ?_) (a' := ?_) #[true, true, true, true, false, false, false, false, false, false, false, false, false] rfl rfl (any_of HT_.out (by kernel_rfl)) (fun _ _ _ h => h) (Or.inl ⟨by rfl, ?_⟩) ?_ ?_
              rotate_left
              ·intro w'
               go_simp
               with_reducible rfl
              rotate_left
              ·simp only [Act.put, List.setIfInBounds_toArray, List.set_cons_zero, List.set_cons_succ, i64_w, i32_w]
               rfl
              refine pure_ (i := 4) (N := some 46) (v := ?_) (a' := ?_) #[true, true, true, true, true, false, false, false, false, false, false, false, false] rfl rfl (any_of HT_.out (by kernel_rfl)) (fun _ _ _ h => h) (Or.inl ⟨by rfl, ?_⟩) ?_ ?_
              rotate_left
              ·intro w'
               go_simp
               with_reducible rfl
              rotate_left
              ·simp only [Act.put, List.setIfInBounds_toArray, List.set_cons_zero, List.set_cons_succ, i64_w, i32_w]
               rfl
              refine pure_ (i := 5) (N := some 47) (v := ?_) (a' := ?_) #[true, true, true, true, true, true, false, false, false, false, false, false, false] rfl rfl (any_of HT_.out (by kernel_rfl)) (fun _ _ _ h => h) (Or.inl ⟨by rfl, ?_⟩) ?_ ?_
              rotate_left
              ·intro w'
               go_simp
               with_reducible rfl
              rotate_left
              ·simp only [Act.put, List.setIfInBounds_toArray, List.set_cons_zero, List.set_cons_succ, i64_w, i32_w]
               rfl
              refine pure_ (i := 7) (N := some 49) (v := ?_) (a' := ?_) #[true, true, true, true, true, true, false, true, false, false, false, false, false] rfl rfl (any_of HT_.out (by kernel_rfl)) (fun _ _ _ h => h) (Or.inl ⟨by rfl, ?_⟩) ?_ ?_
              rotate_left
              ·intro w'
               go_simp
               with_reducible rfl
              rotate_left
              ·simp only [Act.put, List.setIfInBounds_toArray, List.set_cons_zero, List.set_cons_succ, i64_w, i32_w]
               rfl
              refine pure_ (i := 8) (N := some 50) (v := ?_) (a' := ?_) #[true, true, true, true, true, true, false, true, true, false, false, false, false] rfl rfl (any_of HT_.out (by kernel_rfl)) (fun _ _ _ h => h) (Or.inl ⟨by rfl, ?_⟩) ?_ ?_
              rotate_left
              ·intro w'
               go_simp
               with_reducible rfl
              rotate_left
              ·simp only [Act.put, List.setIfInBounds_toArray, List.set_cons_zero, List.set_cons_succ, i64_w, i32_w]
               rfl
              refine pure_ (i := 9) (N := some 51) (v := ?_) (a' := ?_) #[true, true, true, true, true, true, false, true, true, true, false, false, false] rfl rfl (any_of HT_.out (by kernel_rfl)) (fun _ _ _ h => h) (Or.inl ⟨by rfl, ?_⟩) ?_ ?_
              rotate_left
              ·intro w'
               go_simp
               with_reducible rfl
              rotate_left
              ·simp only [Act.put, List.setIfInBounds_toArray, List.set_cons_zero, List.set_cons_succ, i64_w, i32_w]
               rfl
              refine take_ (i := 6) (N := some 48) (v := ?_) (a' := ?_) #[true, true, true, true, true, true, true, true, true, true, false, false, false] rfl rfl (take_ofW HT_.out HW_.out (by kernel_rfl)) (fun _ _ _ h => h) (Or.inl ⟨by rfl, ?_⟩) hHeld ?_ ?_
              rotate_left
              ·rintro w' ⟨s0, s1⟩
               go_simp
               with_reducible rfl
              rotate_left
              ·simp only [Act.put, List.setIfInBounds_toArray, List.set_cons_zero, List.set_cons_succ, i64_w, i32_w]
               rfl
              refine take_ (i := 10) (N := some 52) (v := ?_) (a' := ?_) #[true, true, true, true, true, true, true, true, true, true, true, false, false] rfl rfl (take_ofW HT_.out HW_.out (by kernel_rfl)) (fun _ _ _ h => h) (Or.inl ⟨by rfl, ?_⟩) hHeld ?_ ?_
              rotate_left
              ·rintro w' ⟨s0, s1⟩
               go_simp
               with_reducible rfl
              rotate_left
              ·simp only [Act.put, List.setIfInBounds_toArray, List.set_cons_zero, List.set_cons_succ, i64_w, i32_w]
               rfl
              refine one_ (i := 11) (N := some 53) #[true, true, true, true, true, true, true, true, true, true, true, true, false] rfl rfl (one_of HT_.out (by kernel_rfl)) (by decide) (fun K hK => ?_)
              refine goes_ Try.func28 (by kernel_rfl) rfl #[.int .i64 a0, .slice A1 l1.length c1, .slice A2 l2.length c2, .int .i64 (rd t380 x14_2), .int .i64 (rd t381 x12_1)] (by rfl) rfl rfl (by (try simp only [List.map_toArray, List.map_cons, List.map_nil]); first | done | rfl | (simp only [List.length_drop, List.length_take]; rfl)) ?_
              with_reducible refine (miradorref15_in.calls k2 a0 _ _ l1 _ _ l2 (rd t380 x14_2) (rd t381 x12_1) false _ ?side1 ?side2 ?side3 ?side4 A18.out).mono ?_
              (case side1 => repeat (first | exact (Kd.C_below HR1.out HB.out) | (with_reducible refine Kd.C_alloc ?_ _) | (with_reducible refine Kd.C_drewN ?_ _) | (with_reducible refine Kd.C_drew ?_)))
              (case side2 => exact HC1.out)
              (case side3 => repeat (first | exact (Kd.C_below HR2.out HB.out) | (with_reducible refine Kd.C_alloc ?_ _) | (with_reducible refine Kd.C_drewN ?_ _) | (with_reducible refine Kd.C_drew ?_)))
              (case side4 => exact HC2.out)
              rintro e w63 ⟨rfl, hb⟩
              have HS0_ := (hb.cell (World.block_lt_of_cell? _ _ (hHeld.1))).trans (hHeld.1)
              have HS1_ := (hb.cell (World.block_lt_of_cell? _ _ (hHeld.2))).trans (hHeld.2)
              refine ⟨_, rfl, ?_⟩
              have n0_ := Aside0.mk (Kd.R_below (by (with_reducible repeat (first | apply Kd.R_alloc | apply Kd.R_drewN | apply Kd.R_drew)); exact HO_8.out) hb)
              have n1_ := Aside0.mk (Kd.R_below (by (with_reducible repeat (first | apply Kd.R_alloc | apply Kd.R_drewN | apply Kd.R_drew)); exact HO_9.out) hb)
              have n2_ := Aside0.mk (Kd.R_below (by (with_reducible repeat (first | apply Kd.R_alloc | apply Kd.R_drewN | apply Kd.R_drew)); exact HO_10.out) hb)
              have n3_ := Aside0.mk (Kd.R_below (by (with_reducible repeat (first | apply Kd.R_alloc | apply Kd.R_drewN | apply Kd.R_drew)); exact HO_11.out) hb)
              have n4_ := Aside0.mk (Kd.R_below (by (with_reducible repeat (first | apply Kd.R_alloc | apply Kd.R_drewN | apply Kd.R_drew)); exact HO_13.out) hb)
              have n5_ := Aside0.mk (below_step (by repeat (first | (with_reducible first | exact HB.out | apply below_alloc | apply pw_below_drewN | apply below_drew1) | exact HB.out)) hb)
              clear HO_8
              clear HO_9
              clear HO_10
              clear HO_11
              clear HO_13
              clear HB
              have HO_8 := n0_
              have HO_9 := n1_
              have HO_10 := n2_
              have HO_11 := n3_
              have HO_13 := n4_
              have HB := n5_
              clear n0_ n1_ n2_ n3_ n4_ n5_
              (try clear hb)
              (try clear hb2)
              (try clear hk)
              (try clear hi)
              refine hK.out _ _ ⟨HS0_, HS1_⟩ (fun hHeld => ?_)
              clear hK K
              refine norm_ (a' := ?_) ?_ ?_
              rotate_left
              ·show Act.put _ (some 53) _ = _
               simp only [Act.put, List.setIfInBounds_toArray, List.set_cons_zero, List.set_cons_succ, i64_w, i32_w]
               rfl
              refine pure_ (i := 12) (N := some 54) (v := ?_) (a' := ?_) #[true, true, true, true, true, true, true, true, true, true, true, true, true] rfl rfl (any_of HT_.out (by kernel_rfl)) (fun _ _ _ h => h) (Or.inl ⟨by rfl, ?_⟩) ?_ ?_
              rotate_left
              ·intro w'
               go_simp
               with_reducible rfl
              rotate_left
              ·simp only [Act.put, List.setIfInBounds_toArray, List.set_cons_zero, List.set_cons_succ, i64_w, i32_w]
               rfl
              refine done_ (done_of HT_.out (by kernel_rfl)) ?_
              try go_wp2
              go_roundg k2
              case measure => have := HK1.out; have := HK2.out; omega
              case rel => exact ⟨(x10_2), (x11_2), (x13_2), (wrap64 (x14_2 + 1)), (by first | rfl | (simp; done) | (simp [*]; done)), H', ⟨by have := HK1.out; have := HK2.out; omega⟩, ⟨by (with_reducible repeat (first | apply Kd.R_alloc | apply Kd.R_drewN | apply Kd.R_drew)); exact HO_8.out⟩, ⟨by (with_reducible repeat (first | apply Kd.R_alloc | apply Kd.R_drewN | apply Kd.R_drew)); exact HO_9.out⟩, ⟨by (with_reducible repeat (first | apply Kd.R_alloc | apply Kd.R_drewN | apply Kd.R_drew)); exact HO_10.out⟩, ⟨by (with_reducible repeat (first | apply Kd.R_alloc | apply Kd.R_drewN | apply Kd.R_drew)); exact HO_11.out⟩, ⟨by (with_reducible repeat (first | apply Kd.R_alloc | apply Kd.R_drewN | apply Kd.R_drew)); exact HO_13.out⟩, ⟨by repeat (first | (with_reducible first | exact HB.out | apply below_alloc | apply pw_below_drewN | apply below_drew1) | exact HB.out)⟩⟩
            ·rw [if_neg c17] at H
             exact absurd H (by simp)
           ·rw [if_neg c16] at H
            exact absurd H (by simp)
          ·rw [if_neg c15] at H
           exact absurd H (by simp)
         ·rw [if_neg c14] at H
          exact absurd H (by simp)
        ·rw [if_neg c13] at H
         have c13b0 : decide ((wrap64 (x14_2 + 1)) < (t380.length : Int)) = false := decide_eq_false c13
         clear c13
         have HC64 := Aside0.mk H
         clear H
         obtain ⟨Ao65, co65, eo65⟩ := Kd.R_slice HO_8.out
         subst eo65
         go_upto_region 19 with (fail)
         go_cut [135] (fun v135 wc => ∃ (kq : Nat) (x135_63 : Bool), v135 = .bool x135_63 ∧ Aside0 (miradorref15_Combine.j2 kq a0 l1 l2 t380 t381 x10_2 x11_2 x12_1 x13_2 x135_63 = some r) ∧ Aside0 (kq ≤ k2) ∧ Aside0 (Kd.R (Kd.int .i64) 3 wc w.heap.size (fun k_ => some k_ ≠ ((.slice Ao12 t381.length co12) : Value).ownBlock) (.slice Ao65 t380.length co65) t380) ∧ Aside0 (Kd.R (Kd.int .i64) 3 wc w.heap.size (fun k_ => some k_ ≠ ((.slice Ao65 t380.length co65) : Value).ownBlock) (.slice Ao12 t381.length co12) t381) ∧ Aside0 (Kd.R k26 26 wc w.heap.size (fun k_ => some k_ ≠ (u11 : Value).ownBlock ∧ some k_ ≠ (u13 : Value).ownBlock) u10 x10_2) ∧ Aside0 (Kd.R k26 26 wc w.heap.size (fun k_ => some k_ ≠ (u10 : Value).ownBlock ∧ some k_ ≠ (u13 : Value).ownBlock) u11 x11_2) ∧ Aside0 (Kd.R k26 26 wc w.heap.size (fun k_ => some k_ ≠ (u10 : Value).ownBlock ∧ some k_ ≠ (u11 : Value).ownBlock) u13 x13_2) ∧ Aside0 (Below w.heap.size w wc))
         case first =>
          have H := HC64.out
          clear HC64
          by_cases c66 : (x11_2.length : Int) > 0
          ·rw [if_pos c66] at H
           have c66b0 : decide (0 < (x11_2.length : Int)) = true := decide_eq_true c66
           have c66b1 : decide (0 < x11_2.length) = true := decide_eq_true (by omega)
           clear c66
           (first | rw [c66b0] | (simp only [i64_w, i32_w]; rw [c66b0]) | skip)
           replace H := Option.bind_eq_some_iff.mp H
           obtain ⟨t416, A670, H⟩ := H
           replace H : (miradorref15_Combine.j2 k2 a0 l1 l2 t380 t381 x10_2 x11_2 x12_1 x13_2 t416) = some r := H
           have A67 := Aside0.mk A670
           clear A670
           have H' := Aside0.mk H
           clear H
           obtain ⟨Ao68, co68, eo68⟩ := Kd.R_slice HO_11.out
           subst eo68
           obtain ⟨Ao69, co69, eo69⟩ := Kd.R_slice HO_13.out
           subst eo69
           go_wp2_with (first | (go_at_call 29; (with_reducible refine (miradorref15_same.calls k2 _ _ x11_2 _ _ x13_2 t416 _ ?side1 ?side2 ?side3 ?side4 A67.out).mono ?_); (case side1 => repeat (first | exact (Kd.R_reads' HO_11.out).2.2 | (with_reducible refine Kd.C_alloc ?_ _) | (with_reducible refine Kd.C_drewN ?_ _) | (with_reducible refine Kd.C_drew ?_))); (case side2 => exact (Kd.R_reads' HO_11.out).2.1); (case side3 => repeat (first | exact (Kd.R_reads' HO_13.out).2.2 | (with_reducible refine Kd.C_alloc ?_ _) | (with_reducible refine Kd.C_drewN ?_ _) | (with_reducible refine Kd.C_drew ?_))); (case side4 => exact (Kd.R_reads' HO_13.out).2.1); rintro e w' ⟨rfl, ⟨nd, rfl⟩⟩))
           go_meet
           case rel => exact ⟨_, (t416), (by first | rfl | (simp; done) | (simp [*]; done)), H', ⟨by have := HK1.out; have := HK2.out; first | omega | exact Nat.le_refl _⟩, ⟨by (with_reducible repeat (first | apply Kd.R_alloc | apply Kd.R_drewN | apply Kd.R_drew)); exact HO_8.out⟩, ⟨by (with_reducible repeat (first | apply Kd.R_alloc | apply Kd.R_drewN | apply Kd.R_drew)); exact HO_9.out⟩, ⟨by (with_reducible repeat (first | apply Kd.R_alloc | apply Kd.R_drewN | apply Kd.R_drew)); exact HO_10.out⟩, ⟨by (with_reducible repeat (first | apply Kd.R_alloc | apply Kd.R_drewN | apply Kd.R_drew)); exact HO_11.out⟩, ⟨by (with_reducible repeat (first | apply Kd.R_alloc | apply Kd.R_drewN | apply Kd.R_drew)); exact HO_13.out⟩, ⟨by repeat (first | (with_reducible first | exact HB.out | apply below_alloc | apply pw_below_drewN | apply below_drew1) | exact HB.out)⟩⟩
          ·rw [if_neg c66] at H
           have c66b0 : decide (0 < (x11_2.length : Int)) = false := decide_eq_false c66
           have c66b1 : decide (0 < x11_2.length) = false := decide_eq_false (by omega)
           clear c66
           (first | rw [c66b0] | (simp only [i64_w, i32_w]; rw [c66b0]) | skip)
           have H' := Aside0.mk H
           clear H
           obtain ⟨Ao70, co70, eo70⟩ := Kd.R_slice HO_11.out
           subst eo70
           go_wp2
           go_meet
           case rel => exact ⟨_, (false), (by first | rfl | (simp; done) | (simp [*]; done)), H', ⟨by have := HK1.out; have := HK2.out; first | omega | exact Nat.le_refl _⟩, ⟨by (with_reducible repeat (first | apply Kd.R_alloc | apply Kd.R_drewN | apply Kd.R_drew)); exact HO_8.out⟩, ⟨by (with_reducible repeat (first | apply Kd.R_alloc | apply Kd.R_drewN | apply Kd.R_drew)); exact HO_9.out⟩, ⟨by (with_reducible repeat (first | apply Kd.R_alloc | apply Kd.R_drewN | apply Kd.R_drew)); exact HO_10.out⟩, ⟨by (with_reducible repeat (first | apply Kd.R_alloc | apply Kd.R_drewN | apply Kd.R_drew)); exact HO_11.out⟩, ⟨by (with_reducible repeat (first | apply Kd.R_alloc | apply Kd.R_drewN | apply Kd.R_drew)); exact HO_13.out⟩, ⟨by repeat (first | (with_reducible first | exact HB.out | apply below_alloc | apply pw_below_drewN | apply below_drew1) | exact HB.out)⟩⟩
         case rest =>
          clear HC64
          try clear c1
          try clear c2
          try clear p2
          try clear p3
          try clear q3
          try clear hx3
          try clear c4
          try clear p4
          try clear q4
          try clear hx4
          try clear c5
          try clear c6
          try clear p6
          try clear c13
          try clear c13b0
          try clear c14
          try clear c15
          try clear c16
          try clear c17
          try clear c19
          try clear c28
          try clear p38
          try clear q38
          try clear hx38
          try clear p39
          try clear q39
          try clear hx39
          try clear p40
          try clear q40
          try clear hx40
          try clear p41
          try clear q41
          try clear hx41
          try clear c49
          try clear c51
          try clear c52
          try clear c53
          try clear p64
          try clear c66
          try clear c66b0
          try clear c66b1
          try clear hx389_0
          try clear hx390_0
          try clear hx407_0
          try clear hx408_0
          try clear hx409_0
          try clear hx410_0
          try clear hx411_0
          try clear hx412_0
          try clear p389
          try clear p390
          try clear p407
          try clear p408
          try clear p409
          try clear p410
          try clear p411
          try clear p412
          try clear q389
          try clear q390
          try clear q407
          try clear q408
          try clear q409
          try clear q410
          try clear q411
          try clear q412
          obtain ⟨kq, x135_63, rfl, HA, HJ63, HO_8, HO_9, HO_10, HO_11, HO_13, HB⟩ := hcut
          cases kq with
          | zero => exact absurd HA.out (by simp [miradorref15_Combine.j2])
          | succ kj63 =>
           have H := HA.out
           clear HA
           simp only [miradorref15_Combine.j2] at H
           by_cases c71 : x135_63 = true
           ·subst c71
            have H1 : (miradorref15_Combine.l2 kj63 a0 l1 l2 t380 t381 x10_2 x11_2 x12_1 0) = some r := by rw [if_pos rfl] at H; exact H
            clear H
            have H := H1
            clear H1
            have H' := Aside0.mk H
            clear H
            go_wp2
            go_loopg [16] kj63 (fun kq v16 w' => ∃ (x11_4 : List (S26)) (x16_4 : Int), v16 = .int .i64 x16_4 ∧ Aside0 (miradorref15_Combine.l2 kq a0 l1 l2 t380 t381 x10_2 x11_4 x12_1 x16_4 = some r) ∧ Aside0 (kq ≤ kj63) ∧ Aside0 (Kd.R (Kd.int .i64) 3 w' w.heap.size (fun k_ => some k_ ≠ ((.slice Ao12 t381.length co12) : Value).ownBlock) (.slice Ao65 t380.length co65) t380) ∧ Aside0 (Kd.R (Kd.int .i64) 3 w' w.heap.size (fun k_ => some k_ ≠ ((.slice Ao65 t380.length co65) : Value).ownBlock) (.slice Ao12 t381.length co12) t381) ∧ Aside0 (Kd.R k26 26 w' w.heap.size (fun k_ => some k_ ≠ (u11 : Value).ownBlock) u10 x10_2) ∧ Aside0 (Kd.R k26 26 w' w.heap.size (fun k_ => some k_ ≠ (u10 : Value).ownBlock) u11 x11_4) ∧ Aside0 (Below w.heap.size w w'))
            case atStart => exact ⟨(x11_2), (0), (by first | rfl | (simp; done) | (simp [*]; done)), H', ⟨Nat.le_refl _⟩, ⟨by (with_reducible repeat (first | apply Kd.R_alloc | apply Kd.R_drewN | apply Kd.R_drew)); exact HO_8.out⟩, ⟨by (with_reducible repeat (first | apply Kd.R_alloc | apply Kd.R_drewN | apply Kd.R_drew)); exact HO_9.out⟩, ⟨by (with_reducible repeat (first | apply Kd.R_alloc | apply Kd.R_drewN | apply Kd.R_drew)); exact Kd.R_mono HO_10.out (fun _ hk => hk.1)⟩, ⟨by (with_reducible repeat (first | apply Kd.R_alloc | apply Kd.R_drewN | apply Kd.R_drew)); exact Kd.R_mono HO_11.out (fun _ hk => hk.1)⟩, ⟨by repeat (first | (with_reducible first | exact HB.out | apply below_alloc | apply pw_below_drewN | apply below_drew1) | exact HB.out)⟩⟩
            case round =>
             clear H'
             try clear c1
             try clear c2
             try clear p2
             try clear p3
             try clear q3
             try clear hx3
             try clear c4
             try clear p4
             try clear q4
             try clear hx4
             try clear c5
             try clear c6
             try clear p6
             try clear c7
             try clear c13
             try clear c13b0
             try clear c14
             try clear c15
             try clear c16
             try clear c17
             try clear c19
             try clear c28
             try clear p38
             try clear q38
             try clear hx38
             try clear p39
             try clear q39
             try clear hx39
             try clear p40
             try clear q40
             try clear hx40
             try clear p41
             try clear q41
             try clear hx41
             try clear c49
             try clear c51
             try clear c52
             try clear c53
             try clear p64
             try clear c66
             try clear c66b0
             try clear c66b1
             try clear c71
             try clear hx389_0
             try clear hx390_0
             try clear hx407_0
             try clear hx408_0
             try clear hx409_0
             try clear hx410_0
             try clear hx411_0
             try clear hx412_0
             try clear p2
             try clear p3
             try clear p38
             try clear p389
             try clear p39
             try clear p390
             try clear p4
             try clear p40
             try clear p407
             try clear p408
             try clear p409
             try clear p41
             try clear p410
             try clear p411
             try clear p412
             try clear p6
             try clear p64
             try clear q3
             try clear q38
             try clear q389
             try clear q39
             try clear q390
             try clear q4
             try clear q40
             try clear q407
             try clear q408
             try clear q409
             try clear q41
             try clear q410
             try clear q411
             try clear q412
             obtain ⟨x11_4, x16_4, rfl, HA, HK4, HO_8, HO_9, HO_10, HO_11, HB⟩ := hrel
             cases gk with
             | zero => exact absurd HA.out (by simp [miradorref15_Combine.l2])
             | succ k4 =>
              have H := HA.out
              clear HA
              simp only [miradorref15_Combine.l2] at H
              by_cases c72 : x16_4 < (x11_4.length : Int)
              ·rw [if_pos c72] at H
               have c72b0 : decide (x16_4 < (x11_4.length : Int)) = true := decide_eq_true c72
               clear c72
               obtain ⟨ji73, hji73⟩ : ∃ j_ : Int, (wrap64 (x12_1 + 1)) = j_ := ⟨_, rfl⟩
               replace H : (if 0 ≤ (ji73) then (if (ji73) < (t381.length : Int) then (if 0 ≤ x16_4 then (miradorref15_Combine.l2 k4 a0 l1 l2 t380 t381 x10_2 (x11_4.set (x16_4 : Int).toNat (⟨(rd_T26 x11_4 x16_4).f0, (rd_T26 x11_4 x16_4).f1, (rd_T26 x11_4 x16_4).f2, wrap64 ((rd t381 (ji73)) - ((rd_T26 x11_4 x16_4).f1))⟩ : S26)) x12_1 (wrap64 (x16_4 + 1))) else (none)) else (none)) else (none)) = some r := by first | (rw [hji73] at H; exact H) | (simp only [hji73] at H ⊢; exact H)
               (try rw [hji73] at c11b0)
               have hji73w : (IntKind.i64.wrap (x12_1 + 1)) = ji73 := (i64_w _).trans hji73
               by_cases c74 : 0 ≤ (ji73)
               ·rw [if_pos c74] at H
                have c74b0 : decide (0 ≤ (ji73)) = true := decide_eq_true c74
                clear c74
                by_cases c75 : (ji73) < (t381.length : Int)
                ·rw [if_pos c75] at H
                 have c75b0 : decide ((ji73) < (t381.length : Int)) = true := decide_eq_true c75
                 clear c75
                 by_cases c76 : 0 ≤ x16_4
                 ·rw [if_pos c76] at H
                  have c76b0 : decide (0 ≤ x16_4) = true := decide_eq_true c76
                  clear c76
                  obtain ⟨y419, hy419⟩ : ∃ y_ : List (S26), y_ = (x11_4.set (x16_4 : Int).toNat (⟨(rd_T26 x11_4 x16_4).f0, (rd_T26 x11_4 x16_4).f1, (rd_T26 x11_4 x16_4).f2, wrap64 ((rd t381 (ji73)) - ((rd_T26 x11_4 x16_4).f1))⟩ : S26)) := ⟨_, rfl⟩
                  replace H : (miradorref15_Combine.l2 k4 a0 l1 l2 t380 t381 x10_2 y419 x12_1 (wrap64 (x16_4 + 1))) = some r := by first | (rw [hy419]; with_reducible exact H) | (have H2_ := (Option.bind_some _ _).symm.trans H; rw [hy419]; with_reducible exact H2_) | (have H2_ := (Option.bind_some _ _).symm.trans H; with_reducible exact H2_) | with_reducible exact H | (rw [hy419]; exact H) | exact H
                  have Ny419 := Aside0.mk hy419
                  clear hy419
                  have H' := Aside0.mk H
                  clear H
                  obtain ⟨Ao78, co78, eo78⟩ := Kd.R_slice HO_11.out
                  subst eo78
                  try go_wp2
                  have n0_ := Aside0.mk (Kd.R_drew HO_8.out)
                  have n1_ := Aside0.mk (Kd.R_drew HO_9.out)
                  have n2_ := Aside0.mk (Kd.R_drew HO_10.out)
                  have n3_ := Aside0.mk (Kd.R_drew HO_11.out)
                  have n4_ := Aside0.mk (below_drew1 HB.out)
                  clear HO_8
                  clear HO_9
                  clear HO_10
                  clear HO_11
                  clear HB
                  have HO_8 := n0_
                  have HO_9 := n1_
                  have HO_10 := n2_
                  have HO_11 := n3_
                  have HB := n4_
                  clear n0_ n1_ n2_ n3_ n4_
                  have p417 : 0 ≤ ((ji73) : Int) := of_decide_eq_true (by first | (with_reducible assumption) | assumption)
                  have q417 : (ji73) < (t381.length : Int) := of_decide_eq_true (by first | (with_reducible assumption) | assumption)
                  obtain ⟨ad417, e417, hx417_0⟩ := Kd.at_int (Kd.R_reads' HO_9.out).2.2 (ji73) p417 q417
                  cases e417
                  replace p417 := eq_true p417
                  replace q417 := eq_true q417
                  have p418 : 0 ≤ (x16_4 : Int) := of_decide_eq_true (by first | (with_reducible assumption) | assumption)
                  have q418 : x16_4 < (x11_4.length : Int) := of_decide_eq_true (by first | (with_reducible assumption) | assumption)
                  obtain ⟨ad418, e418, hx418_0, hx418_1, hx418_2, hx418_3⟩ := at_T26 (Kd.R_reads' HO_11.out).2.2 x16_4 p418 q418
                  cases e418
                  replace p418 := eq_true p418
                  replace q418 := eq_true q418
                  have p77 : 0 ≤ (x16_4 : Int) := of_decide_eq_true (by first | (with_reducible assumption) | assumption)
                  have q77 : (x16_4 : Int) < ((x11_4.length : Int) : Int) := of_decide_eq_true (by first | (with_reducible assumption) | assumption)
                  obtain ⟨go77, co77, eo77, gb77, gl77, cl77, HG77⟩ := Kd.R_form HO_11.out (by omega)
                  (first | cases eo77 | (injection eo77 with ea_ en_ ec_; (first | subst ea_ | (injection ea_ with ea_; subst ea_)); subst ec_; clear en_))
                  have GB77 := Aside0.mk gb77
                  have GG77 := Aside0.mk HG77
                  clear gb77 gl77 HG77
                  (first | simp only [add_plain] at hx418_0 | skip)
                  (first | simp only [add_plain] at hx418_1 | skip)
                  (first | simp only [add_plain] at hx418_2 | skip)
                  (first | simp only [add_plain] at hx418_3 | skip)
                  obtain ⟨ce77, hcl77, hM77, hcc77, hfr77⟩ := Kd.R_elem HO_11.out z26 (x16_4 : Int) p77 q77
                  obtain rfl := k26_openM hM77
                  have hx77_0 : World.cell? _ ⟨go77, (x16_4 : Int).toNat * 4, none⟩ = some (.int .i64 ((rd_T26 x11_4 x16_4).f0)) := hcc77 0 _ rfl
                  have hx77_1 : World.cell? _ ⟨go77, (x16_4 : Int).toNat * 4 + 1, none⟩ = some (.int .i64 ((rd_T26 x11_4 x16_4).f1)) := hcc77 1 _ rfl
                  have hx77_2 : World.cell? _ ⟨go77, (x16_4 : Int).toNat * 4 + 2, none⟩ = some (.int .i64 ((rd_T26 x11_4 x16_4).f2)) := hcc77 2 _ rfl
                  have hx77_3 : World.cell? _ ⟨go77, (x16_4 : Int).toNat * 4 + 3, none⟩ = some (.int .i64 ((rd_T26 x11_4 x16_4).f3)) := hcc77 3 _ rfl
                  have hf77_0 : World.frozen? _ ⟨go77, (x16_4 : Int).toNat * 4, none⟩ = false := hfr77 0
                  have hf77_1 : World.frozen? _ ⟨go77, (x16_4 : Int).toNat * 4 + 1, none⟩ = false := hfr77 1
                  have hf77_2 : World.frozen? _ ⟨go77, (x16_4 : Int).toNat * 4 + 2, none⟩ = false := hfr77 2
                  have hf77_3 : World.frozen? _ ⟨go77, (x16_4 : Int).toNat * 4 + 3, none⟩ = false := hfr77 3
                  clear hcl77 hcc77 hfr77 hM77
                  replace p77 := eq_true p77
                  replace q77 := eq_true q77
                  obtain ⟨ce80, hcl80, hM80, hcc80, hfr80⟩ := Kd.R_elem HO_11.out z26 (x16_4 : Int) (of_decide_eq_true (by first | (with_reducible assumption) | assumption)) (by have h_ : (x16_4 : Int) < ((x11_4.length : Int) : Int) := of_decide_eq_true (by first | (with_reducible assumption) | assumption); first | exact h_ | (have e_ := (Kd.R_reads' HO_11.out).1; omega) | simpa using h_)
                  obtain rfl := k26_openM hM80
                  have HP80 := (Kd.R_seg HO_11.out (x16_4 : Int) (of_decide_eq_true (by first | (with_reducible assumption) | assumption)) (by have h_ : (x16_4 : Int) < ((x11_4.length : Int) : Int) := of_decide_eq_true (by first | (with_reducible assumption) | assumption); first | exact h_ | (have e_ := (Kd.R_reads' HO_11.out).1; omega) | simpa using h_) (seg := [.int .i64 (wrap64 ((rd t381 (ji73)) - ((rd_T26 x11_4 x16_4).f1)))]) (j := 3) hcl80 hcc80 (show 4 ≤ 4 from by decide) (x' := (⟨(rd_T26 x11_4 x16_4).f0, (rd_T26 x11_4 x16_4).f1, (rd_T26 x11_4 x16_4).f2, wrap64 ((rd t381 (ji73)) - ((rd_T26 x11_4 x16_4).f1))⟩ : S26)) (k26_mkM _ _ _ (⟨(rd_T26 x11_4 x16_4).f0, (rd_T26 x11_4 x16_4).f1, (rd_T26 x11_4 x16_4).f2, wrap64 ((rd t381 (ji73)) - ((rd_T26 x11_4 x16_4).f1))⟩ : S26) ) (fun _ hk => hk)).1
                  rw [← Ny419.out] at HP80
                  have HQ80 := Aside0.mk HP80
                  clear hcl80 hcc80 hfr80 hM80 HP80
                  refine start_ (n := 16) (S := fun w' => w'.cell? (ad417.add ((ji73)).toNat) = some (.int .i64 (rd t381 (ji73))) ∧ w'.cell? ⟨go77, ((x16_4).toNat * 4), none⟩ = some (.int .i64 ((rd_T26 x11_4 x16_4).f0)) ∧ w'.cell? ⟨go77, ((x16_4).toNat * 4) + 1, none⟩ = some (.int .i64 ((rd_T26 x11_4 x16_4).f1)) ∧ w'.cell? ⟨go77, ((x16_4).toNat * 4) + 2, none⟩ = some (.int .i64 ((rd_T26 x11_4 x16_4).f2)) ∧ w'.cell? ⟨go77, ((x16_4).toNat * 4) + 3, none⟩ = some (.int .i64 ((rd_T26 x11_4 x16_4).f3))) (ds := [15]) #[false, false, false, false, false, false, false, false, false, false, false, false, false, false, false, false] (by kernel_rfl) rfl rfl ⟨hx417_0, hx418_0, hx418_1, hx418_2, hx418_3⟩ (fun hHeld => ?_); refine with_tabW miradorref15_Combine.tab23 miradorref15_Combine.bits23 (fun HT_ HW_ => ?_)
                  generalize wr.drew = w79 at HO_8 HO_9 HO_10 HO_11 HB GG77 HQ80 hf77_0 hf77_1 hf77_2 hf77_3 hx417_0 hx418_0 hx418_1 hx418_2 hx418_3 hx77_0 hx77_1 hx77_2 hx77_3 hHeld ⊢
                  refine pure_ (i := 0) (N := some 142) (v := ?_) (a' := ?_) #[true, false, false, false, false, false, false, false, false, false, false, false, false, false, false, false] rfl rfl (any_of HT_.out (by kernel_rfl)) (fun _ _ _ h => h) (Or.inl ⟨by rfl, ?_⟩) ?_ ?_
                  rotate_left
                  ·intro w'
                   go_simp
                   with_reducible rfl
                  rotate_left
                  ·simp only [Act.put, List.setIfInBounds_toArray, List.set_cons_zero, List.set_cons_succ, i64_w, i32_w]
                   rfl
                  refine pure_ (i := 1) (N := some 143) (v := ?_) (a' := ?_) #[true, true, false, false, false, false, false, false, false, false, false, false, false, false, false, false] rfl rfl (any_of HT_.out (by kernel_rfl)) (fun _ _ _ h => h) (Or.inl ⟨by rfl, ?_⟩) ?_ ?_
                  rotate_left
                  ·intro w'
                   go_simp
                   with_reducible rfl
                  rotate_left
                  ·simp only [Act.put, List.setIfInBounds_toArray, List.set_cons_zero, List.set_cons_succ, i64_w, i32_w]
                   rfl
                  refine pure_ (i := 2) (N := some 144) (v := ?_) (a' := ?_) #[true, true, true, false, false, false, false, false, false, false, false, false, false, false, false, false] rfl rfl (any_of HT_.out (by kernel_rfl)) (fun _ _ _ h => h) (Or.inl ⟨by rfl, ?_⟩) ?_ ?_
                  rotate_left
                  ·intro w'
                   go_simp
                   with_reducible rfl
                  rotate_left
                  ·simp only [Act.put, List.setIfInBounds_toArray, List.set_cons_zero, List.set_cons_succ, i64_w, i32_w]
                   rfl
                  refine pure_ (i := 3) (N := some 145) (v := ?_) (a' := ?_) #[true, true, true, true, false, false, false, false, false, false, false, false, false, false, false, false] rfl rfl (any_of HT_.out (by kernel_rfl)) (fun _ _ _ h => h) (Or.inl ⟨by rfl, ?_⟩) ?_ ?_
                  rotate_left
                  ·intro w'
                   go_simp
                   with_reducible rfl
                  rotate_left
                  ·simp only [Act.put, List.setIfInBounds_toArray, List.set_cons_zero, List.set_cons_succ, i64_w, i32_w]
                   rfl
                  refine pure_ (i := 4) (N := some 146) (v := ?_) (a' := ?_) #[true, true, true, true, true, false, false, false, false, false, false, false, false, false, false, false] rfl rfl (any_of HT_.out (by kernel_rfl)) (fun _ _ _ h => h) (Or.inl ⟨by rfl, ?_⟩) ?_ ?_
                  rotate_left
                  ·intro w'
                   go_simp
                   with_reducible rfl
                  rotate_left
                  ·simp only [Act.put, List.setIfInBounds_toArray, List.set_cons_zero, List.set_cons_succ, i64_w, i32_w]
                   rfl
                  refine pure_ (i := 5) (N := some 147) (v := ?_) (a' := ?_) #[true, true, true, true, true, true, false, false, false, false, false, false, false, false, false, false] rfl rfl (any_of HT_.out (by kernel_rfl)) (fun _ _ _ h => h) (Or.inl ⟨by rfl, ?_⟩) ?_ ?_
                  rotate_left
                  ·intro w'
                   go_simp
                   with_reducible rfl
                  rotate_left
                  ·simp only [Act.put, List.setIfInBounds_toArray, List.set_cons_zero, List.set_cons_succ, i64_w, i32_w]
                   rfl
                  refine pure_ (i := 7) (N := some 149) (v := ?_) (a' := ?_) #[true, true, true, true, true, true, false, true, false, false, false, false, false, false, false, false] rfl rfl (any_of HT_.out (by kernel_rfl)) (fun _ _ _ h => h) (Or.inl ⟨by rfl, ?_⟩) ?_ ?_
                  rotate_left
                  ·intro w'
                   go_simp
                   with_reducible rfl
                  rotate_left
                  ·simp only [Act.put, List.setIfInBounds_toArray, List.set_cons_zero, List.set_cons_succ, i64_w, i32_w]
                   rfl
                  refine pure_ (i := 8) (N := some 150) (v := ?_) (a' := ?_) #[true, true, true, true, true, true, false, true, true, false, false, false, false, false, false, false] rfl rfl (any_of HT_.out (by kernel_rfl)) (fun _ _ _ h => h) (Or.inl ⟨by rfl, ?_⟩) ?_ ?_
                  rotate_left
                  ·intro w'
                   go_simp
                   with_reducible rfl
                  rotate_left
                  ·simp only [Act.put, List.setIfInBounds_toArray, List.set_cons_zero, List.set_cons_succ, i64_w, i32_w]
                   rfl
                  refine pure_ (i := 9) (N := some 151) (v := ?_) (a' := ?_) #[true, true, true, true, true, true, false, true, true, true, false, false, false, false, false, false] rfl rfl (any_of HT_.out (by kernel_rfl)) (fun _ _ _ h => h) (Or.inl ⟨by rfl, ?_⟩) ?_ ?_
                  rotate_left
                  ·intro w'
                   go_simp
                   with_reducible rfl
                  rotate_left
                  ·simp only [Act.put, List.setIfInBounds_toArray, List.set_cons_zero, List.set_cons_succ, i64_w, i32_w]
                   rfl
                  refine pure_ (i := 10) (N := some 152) (v := ?_) (a' := ?_) #[true, true, true, true, true, true, false, true, true, true, true, false, false, false, false, false] rfl rfl (any_of HT_.out (by kernel_rfl)) (fun _ _ _ h => h) (Or.inl ⟨by rfl, ?_⟩) ?_ ?_
                  rotate_left
                  ·intro w'
                   go_simp
                   with_reducible rfl
                  rotate_left
                  ·simp only [Act.put, List.setIfInBounds_toArray, List.set_cons_zero, List.set_cons_succ, i64_w, i32_w]
                   rfl
                  refine take_ (i := 6) (N := some 148) (v := ?_) (a' := ?_) #[true, true, true, true, true, true, true, true, true, true, true, false, false, false, false, false] rfl rfl (take_ofW HT_.out HW_.out (by kernel_rfl)) (fun _ _ _ h => h) (Or.inl ⟨by rfl, ?_⟩) hHeld ?_ ?_
                  rotate_left
                  ·rintro w' ⟨s0, s1, s2, s3, s4⟩
                   go_simp
                   with_reducible rfl
                  rotate_left
                  ·simp only [Act.put, List.setIfInBounds_toArray, List.set_cons_zero, List.set_cons_succ, i64_w, i32_w]
                   rfl
                  refine take_ (i := 11) (N := some 153) (v := ?_) (a' := ?_) #[true, true, true, true, true, true, true, true, true, true, true, true, false, false, false, false] rfl rfl (take_ofW HT_.out HW_.out (by kernel_rfl)) (fun _ _ _ h => h) (Or.inl ⟨by rfl, ?_⟩) hHeld ?_ ?_
                  rotate_left
                  ·rintro w' ⟨s0, s1, s2, s3, s4⟩
                   go_simp
                   with_reducible rfl
                  rotate_left
                  ·simp only [Act.put, List.setIfInBounds_toArray, List.set_cons_zero, List.set_cons_succ, i64_w, i32_w]
                   rfl
                  refine pure_ (i := 12) (N := some 154) (v := ?_) (a' := ?_) #[true, true, true, true, true, true, true, true, true, true, true, true, true, false, false, false] rfl rfl (any_of HT_.out (by kernel_rfl)) (fun _ _ _ h => h) (Or.inl ⟨by rfl, ?_⟩) ?_ ?_
                  rotate_left
                  ·intro w'
                   go_simp
                   with_reducible rfl
                  rotate_left
                  ·simp only [Act.put, List.setIfInBounds_toArray, List.set_cons_zero, List.set_cons_succ, i64_w, i32_w]
                   rfl
                  refine pure_ (i := 13) (N := some 155) (v := ?_) (a' := ?_) #[true, true, true, true, true, true, true, true, true, true, true, true, true, true, false, false] rfl rfl (any_of HT_.out (by kernel_rfl)) (fun _ _ _ h => h) (Or.inl ⟨by rfl, ?_⟩) ?_ ?_
                  rotate_left
                  ·intro w'
                   go_simp
                   with_reducible rfl
                  rotate_left
                  ·simp only [Act.put, List.setIfInBounds_toArray, List.set_cons_zero, List.set_cons_succ, i64_w, i32_w]
                   rfl
                  refine pure_ (i := 14) (N := some 156) (v := ?_) (a' := ?_) #[true, true, true, true, true, true, true, true, true, true, true, true, true, true, true, false] rfl rfl (any_of HT_.out (by kernel_rfl)) (fun _ _ _ h => h) (Or.inl ⟨by rfl, ?_⟩) ?_ ?_
                  rotate_left
                  ·intro w'
                   go_simp
                   with_reducible rfl
                  rotate_left
                  ·simp only [Act.put, List.setIfInBounds_toArray, List.set_cons_zero, List.set_cons_succ, i64_w, i32_w]
                   rfl
                  refine last_ (i := 15) (N := none) #[true, true, true, true, true, true, true, true, true, true, true, true, true, true, true, true] rfl rfl (one_of HT_.out (by kernel_rfl)) (by decide) (fun K hK => ?_)
                  refine skip_ (w1 := ?_) (by rfl) rfl ?_ ?_
                  rotate_left
                  ·go_simp
                   rfl
                  refine hK.out _ _ ?_
                  clear hK K
                  refine done_ (done_of HT_.out (by kernel_rfl)) ?_
                  try go_wp2
                  go_roundg k4
                  case measure => have := HK1.out; have := HK2.out; have := HJ63.out; have := HK4.out; omega
                  case rel => exact ⟨(y419), (wrap64 (x16_4 + 1)), (by first | rfl | (simp; done) | (simp [*]; done)), H', ⟨by have := HK1.out; have := HK2.out; have := HJ63.out; have := HK4.out; omega⟩, ⟨by (with_reducible repeat (first | apply Kd.R_alloc | apply Kd.R_drewN | apply Kd.R_drew)); exact Kd.R_mono (Kd.R_far (p := ⟨go77, (x16_4 : Int).toNat * 4 + 3, none⟩) (Kd.R_types HO_8.out GG77.out (by decide)) (fun _ hk => hk.2) (.int .i64 (wrap64 ((rd t381 (ji73)) - ((rd_T26 x11_4 x16_4).f1))))) (fun _ hk => hk.1)⟩, ⟨by (with_reducible repeat (first | apply Kd.R_alloc | apply Kd.R_drewN | apply Kd.R_drew)); exact Kd.R_mono (Kd.R_far (p := ⟨go77, (x16_4 : Int).toNat * 4 + 3, none⟩) (Kd.R_types HO_9.out GG77.out (by decide)) (fun _ hk => hk.2) (.int .i64 (wrap64 ((rd t381 (ji73)) - ((rd_T26 x11_4 x16_4).f1))))) (fun _ hk => hk.1)⟩, ⟨by (with_reducible repeat (first | apply Kd.R_alloc | apply Kd.R_drewN | apply Kd.R_drew)); exact Kd.R_mono (Kd.R_far (p := ⟨go77, (x16_4 : Int).toNat * 4 + 3, none⟩) (Kd.R_mono HO_10.out (fun k_ hk => (⟨hk, fun e_ => hk (by rw [e_]; rfl)⟩ : _ ∧ k_ ≠ go77))) (fun _ hk => hk.2) (.int .i64 (wrap64 ((rd t381 (ji73)) - ((rd_T26 x11_4 x16_4).f1))))) (fun _ hk => hk.1)⟩, ⟨by (with_reducible repeat (first | apply Kd.R_alloc | apply Kd.R_drewN | apply Kd.R_drew)); exact HQ80.out⟩, ⟨by repeat (first | (with_reducible first | exact HB.out | apply below_alloc | apply pw_below_drewN | apply below_drew1 | refine below_set ?_ GB77.out) | exact HB.out)⟩⟩
                 ·rw [if_neg c76] at H
                  exact absurd H (by simp)
                ·rw [if_neg c75] at H
                 exact absurd H (by simp)
               ·rw [if_neg c74] at H
                exact absurd H (by simp)
              ·rw [if_neg c72] at H
               have c72b0 : decide (x16_4 < (x11_4.length : Int)) = false := decide_eq_false c72
               clear c72
               have H' := Aside0.mk H
               clear H
               obtain ⟨Ao81, co81, eo81⟩ := Kd.R_slice HO_11.out
               subst eo81
               go_wp2
               go_roundg k4
               case measure => have := HK1.out; have := HK2.out; have := HJ63.out; have := HK4.out; omega
               case rel => exact ⟨(x10_2), (x11_4), (wrap64 (x12_1 + 1)), (by first | rfl | (simp; done) | (simp [*]; done)), H', ⟨by have := HK1.out; have := HK2.out; have := HJ63.out; have := HK4.out; omega⟩, ⟨by (with_reducible repeat (first | apply Kd.R_alloc | apply Kd.R_drewN | apply Kd.R_drew)); exact HO_8.out⟩, ⟨by (with_reducible repeat (first | apply Kd.R_alloc | apply Kd.R_drewN | apply Kd.R_drew)); exact HO_9.out⟩, ⟨by (with_reducible repeat (first | apply Kd.R_alloc | apply Kd.R_drewN | apply Kd.R_drew)); exact HO_10.out⟩, ⟨by (with_reducible repeat (first | apply Kd.R_alloc | apply Kd.R_drewN | apply Kd.R_drew)); exact HO_11.out⟩, ⟨by repeat (first | (with_reducible first | exact HB.out | apply below_alloc | apply pw_below_drewN | apply below_drew1) | exact HB.out)⟩⟩
           ·replace c71 := Bool.eq_false_iff.mpr c71
            subst c71
            have H1 : (if x10_2.length + x11_2.length < 4398046511104 then (miradorref15_Combine.l0 kj63 a0 l1 l2 t380 t381 (x10_2 ++ x11_2) x13_2 (wrap64 (x12_1 + 1))) else (none)) = some r := by rw [if_neg (show ¬ (false = true) by decide)] at H; exact H
            clear H
            have H := H1
            clear H1
            by_cases c82 : x10_2.length + x11_2.length < 4398046511104
            ·rw [if_pos c82] at H
             have LMc82 := Aside0.mk c82
             clear c82
             obtain ⟨y420, hy420⟩ : ∃ y_ : List (S26), y_ = (x10_2 ++ x11_2) := ⟨_, rfl⟩
             replace H : (miradorref15_Combine.l0 kj63 a0 l1 l2 t380 t381 y420 x13_2 (wrap64 (x12_1 + 1))) = some r := by first | (rw [hy420]; with_reducible exact H) | (have H2_ := (Option.bind_some _ _).symm.trans H; rw [hy420]; with_reducible exact H2_) | (have H2_ := (Option.bind_some _ _).symm.trans H; with_reducible exact H2_) | with_reducible exact H | (rw [hy420]; exact H) | exact H
             have Ny420 := Aside0.mk hy420
             clear hy420
             have H' := Aside0.mk H
             clear H
             obtain ⟨Ao84, co84, eo84⟩ := Kd.R_slice HO_11.out
             subst eo84
             go_wp2_with (first | ((with_reducible refine gate_builtin (b := .append) (xs := #[.tmp 157, .tmp 158]) rfl ?_); at_builtin; refine Kd.R_append_rows k26 (w0 := w) w.heap.size rfl (.tmp 157) (.tmp 158) 22 26 (.agg #[(.int .i64 0), (.int .i64 0), (.int .i64 0), (.int .i64 0)]) 32 rfl Try.underlying22 info26 rfl (by decide) (by omega) u10 x10_2 x11_2 _ _ _ (fun k_ => some k_ ≠ (.slice Ao84 x11_2.length co84 : Value).ownBlock ∧ some k_ ≠ (u13 : Value).ownBlock) (fun _ => False) rfl rfl ?aO ?aR (fun _ _ h => h) (fun _ h => h.elim) ?aF ?aB ?aS ?aL ?_; (case aR => repeat (first | exact (Kd.R_reads' HO_11.out).2.2 | (with_reducible refine Kd.C_alloc ?_ _) | (with_reducible refine Kd.C_drewN ?_ _) | (with_reducible refine Kd.C_drew ?_))); (case aB => exact (by repeat (first | (with_reducible first | exact HB.out | apply below_alloc | apply pw_below_drewN | apply below_drew1) | exact HB.out))); (case aF => exact (fun k_ hk => ⟨Kd.fresh' (Kd.R_lt (by (with_reducible repeat (first | apply Kd.R_alloc | apply Kd.R_drewN | apply Kd.R_drew)); exact HO_11.out)) k_ hk, Kd.fresh' (Kd.R_lt (by (with_reducible repeat (first | apply Kd.R_alloc | apply Kd.R_drewN | apply Kd.R_drew)); exact HO_13.out)) k_ hk⟩)); (case aO => exact (by (with_reducible repeat (first | apply Kd.R_alloc | apply Kd.R_drewN | apply Kd.R_drew)); exact HO_10.out)); (case aS => exact (below_size (by repeat (first | (with_reducible first | exact HB.out | apply below_alloc | apply pw_below_drewN | apply below_drew1) | exact HB.out)))); (case aL => have := LMc82.out; omega); intro v421 w83 ho hb hg hat; rw [← Ny420.out] at ho; have n0_ := Aside0.mk (Kd.R_over' (by (with_reducible repeat (first | apply Kd.R_alloc | apply Kd.R_drewN | apply Kd.R_drew)); exact HO_8.out) (Kd.R_typed (by (with_reducible repeat (first | apply Kd.R_alloc | apply Kd.R_drewN | apply Kd.R_drew)); exact HO_10.out)) (by decide) hg); have n1_ := Aside0.mk (Kd.R_over' (by (with_reducible repeat (first | apply Kd.R_alloc | apply Kd.R_drewN | apply Kd.R_drew)); exact HO_9.out) (Kd.R_typed (by (with_reducible repeat (first | apply Kd.R_alloc | apply Kd.R_drewN | apply Kd.R_drew)); exact HO_10.out)) (by decide) hg); have n2_ := Aside0.mk (Kd.R_after (ok := (fun k_ => some k_ ≠ (u13 : Value).ownBlock)) (by (with_reducible repeat (first | apply Kd.R_alloc | apply Kd.R_drewN | apply Kd.R_drew)); exact Kd.R_mono HO_11.out (fun _ hk => ⟨hk.2, hk.1⟩)) hg hat); have n3_ := Aside0.mk (Kd.R_after (ok := (fun k_ => some k_ ≠ (.slice Ao84 x11_2.length co84 : Value).ownBlock)) (by (with_reducible repeat (first | apply Kd.R_alloc | apply Kd.R_drewN | apply Kd.R_drew)); exact Kd.R_mono HO_13.out (fun _ hk => ⟨hk.2, hk.1⟩)) hg hat); have n4_ := Aside0.mk (hb); have n5_ := Aside0.mk (ho); clear HO_8; clear HO_9; clear HO_11; clear HO_13; clear HB; clear HO_10; have HO_8 := n0_; have HO_9 := n1_; have HO_11 := n2_; have HO_13 := n3_; have HB := n4_; have HO422 := n5_; clear n0_ n1_ n2_ n3_ n4_ n5_; clear ho hb hg hat))
             go_roundg kj63
             case measure => have := HK1.out; have := HK2.out; have := HJ63.out; omega
             case rel => exact ⟨(y420), (x13_2), (wrap64 (x12_1 + 1)), (by first | rfl | (simp; done) | (simp [*]; done)), H', ⟨by have := HK1.out; have := HK2.out; have := HJ63.out; omega⟩, ⟨by (with_reducible repeat (first | apply Kd.R_alloc | apply Kd.R_drewN | apply Kd.R_drew)); exact HO_8.out⟩, ⟨by (with_reducible repeat (first | apply Kd.R_alloc | apply Kd.R_drewN | apply Kd.R_drew)); exact HO_9.out⟩, ⟨by (with_reducible repeat (first | apply Kd.R_alloc | apply Kd.R_drewN | apply Kd.R_drew)); exact Kd.R_mono HO422.out (fun _ hk => hk.2)⟩, ⟨by (with_reducible repeat (first | apply Kd.R_alloc | apply Kd.R_drewN | apply Kd.R_drew)); exact Kd.R_mono HO_13.out (fun _ hk => hk.2)⟩, ⟨by repeat (first | (with_reducible first | exact HB.out | apply below_alloc | apply pw_below_drewN | apply below_drew1) | exact HB.out)⟩⟩
            ·rw [if_neg c82] at H
             exact absurd H (by simp)
     ·rw [if_neg c11] at H
      have c11b0 : decide ((wrap64 (x12_1 + 1)) < (t381.length : Int)) = false := decide_eq_false c11
      clear c11
      by_cases c85 : x10_1.length + x11_1.length < 4398046511104
      ·rw [if_pos c85] at H
       have LMc85 := Aside0.mk c85
       clear c85
       obtain ⟨y386, hy386⟩ : ∃ y_ : List (S26), y_ = (x10_1 ++ x11_1) := ⟨_, rfl⟩
       replace H : (some y386) = some r := by first | (rw [hy386]; with_reducible exact H) | (have H2_ := (Option.bind_some _ _).symm.trans H; rw [hy386]; with_reducible exact H2_) | (have H2_ := (Option.bind_some _ _).symm.trans H; with_reducible exact H2_) | with_reducible exact H | (rw [hy386]; exact H) | exact H
       have Ny386 := Aside0.mk hy386
       clear hy386
       obtain rfl := Option.some.inj H
       obtain ⟨Ao86, co86, eo86⟩ := Kd.R_slice HO_9.out
       subst eo86
       obtain ⟨Ao88, co88, eo88⟩ := Kd.R_slice HO_11.out
       subst eo88
       go_wp2_with (first | ((with_reducible refine gate_builtin (b := .append) (xs := #[.tmp 161, .tmp 162]) rfl ?_); at_builtin; refine Kd.R_append_rows k26 (w0 := w) w.heap.size rfl (.tmp 161) (.tmp 162) 22 26 (.agg #[(.int .i64 0), (.int .i64 0), (.int .i64 0), (.int .i64 0)]) 32 rfl Try.underlying22 info26 rfl (by decide) (by omega) u10 x10_1 x11_1 _ _ _ (fun k_ => some k_ ≠ (.slice Ao88 x11_1.length co88 : Value).ownBlock) (fun _ => False) rfl rfl ?aO ?aR (fun _ _ h => h) (fun _ h => h.elim) ?aF ?aB ?aS ?aL ?_; (case aR => repeat (first | exact (Kd.R_reads' HO_11.out).2.2 | (with_reducible refine Kd.C_alloc ?_ _) | (with_reducible refine Kd.C_drewN ?_ _) | (with_reducible refine Kd.C_drew ?_))); (case aB => exact (by repeat (first | (with_reducible first | exact HB.out | apply below_alloc | apply pw_below_drewN | apply below_drew1) | exact HB.out))); (case aF => exact (fun k_ hk => Kd.fresh' (Kd.R_lt (by (with_reducible repeat (first | apply Kd.R_alloc | apply Kd.R_drewN | apply Kd.R_drew)); exact HO_11.out)) k_ hk)); (case aO => exact (by (with_reducible repeat (first | apply Kd.R_alloc | apply Kd.R_drewN | apply Kd.R_drew)); exact HO_10.out)); (case aS => exact (below_size (by repeat (first | (with_reducible first | exact HB.out | apply below_alloc | apply pw_below_drewN | apply below_drew1) | exact HB.out)))); (case aL => have := LMc85.out; omega); intro v387 w87 ho hb hg hat; rw [← Ny386.out] at ho; have n0_ := Aside0.mk (Kd.R_over' (by (with_reducible repeat (first | apply Kd.R_alloc | apply Kd.R_drewN | apply Kd.R_drew)); exact HO_8.out) (Kd.R_typed (by (with_reducible repeat (first | apply Kd.R_alloc | apply Kd.R_drewN | apply Kd.R_drew)); exact HO_10.out)) (by decide) hg); have n1_ := Aside0.mk (Kd.R_over' (by (with_reducible repeat (first | apply Kd.R_alloc | apply Kd.R_drewN | apply Kd.R_drew)); exact HO_9.out) (Kd.R_typed (by (with_reducible repeat (first | apply Kd.R_alloc | apply Kd.R_drewN | apply Kd.R_drew)); exact HO_10.out)) (by decide) hg); have n2_ := Aside0.mk (Kd.R_after (ok := (fun _ => True)) (by (with_reducible repeat (first | apply Kd.R_alloc | apply Kd.R_drewN | apply Kd.R_drew)); exact Kd.R_mono HO_11.out (fun _ hk => ⟨trivial, hk⟩)) hg hat); have n3_ := Aside0.mk (hb); have n4_ := Aside0.mk (ho); clear HO_8; clear HO_9; clear HO_11; clear HB; clear HO_10; have HO_8 := n0_; have HO_9 := n1_; have HO_11 := n2_; have HB := n3_; have HO388 := n4_; clear n0_ n1_ n2_ n3_ n4_; clear ho hb hg hat))
       go_ret
       exact ⟨_, by first | rfl | (simp [errW_none, errW_some] <;> rfl) | (simp [*, errW_none, errW_some] <;> rfl), by (with_reducible repeat (first | apply Kd.R_alloc | apply Kd.R_drewN | apply Kd.R_drew)); exact Kd.R_mono HO388.out (fun _ hk => trivial), by repeat (first | (with_reducible first | exact HB.out | apply below_alloc | apply pw_below_drewN | apply below_drew1) | exact HB.out)⟩
      ·rw [if_neg c85] at H
       exact absurd H (by simp)
  ·rw [if_neg c5] at H
   exact absurd H (by simp)
 ·rw [if_neg c4] at H
  exact absurd H (by simp)

end Go.Proofs.Ytkobiblgbpnlaaa.X
