/- What each Go function that these laws use answers: as a Lean function, with the proof that the machine's call comes to it. Written by a program of this session (xprint.py). -/
import Derived.Test.YtloigmonfbfieaaXx0
import Derived.Test.YtloigmonfbfieaaXx1
import Derived.Test.YtloigmonfbfieaaXx3
import Derived.Test.YtloigmonfbfieaaXx4
import Derived.Test.YtloigmonfbfieaaXx5
namespace Go.Proofs.Ytloigmonfbfieaa.X
open Go.RowKit Go.Proofs.YtloigmonfbfieaaW.PrintWords Go.Proofs.YtloigmonfbfieaaW.PrintLast Go.Proofs.YtloigmonfbfieaaW.PrintMore
attribute [local go_sem] max2_int min2_int max_two min_two max_three min_three max_four min_four   -- for this text's walks alone
set_option linter.unusedVariables false
set_option linter.unusedSimpArgs false

/-! ### miradorlaw16_PlainBack: function 3 -/
mutual
def miradorlaw16_PlainBack.j0 : Nat → Int → Int → List Int → ByteArray → Bool → Bool → Int → Int → Bool → Bool → Int → Int → Int → Int → Int → Int → Option (Bool)
  | 0, _, _, _, _, _, _, _, _, _, _, _, _, _, _, _, _ => none
  | k + 1, x1, x2, x3, x4, x11, x45, x196000, x196001, x196002, x196003, x196004, x196005, x196006, x196007, x196008, x196009 => if x45 = true then (some x11) else ((plain_Raw.f k x196000 x196001 x196002 x196003 x196004 x196005 x196006 x196007 x196008 x196009 x3).bind fun t198 => (if t198.size + x4.size ≤ 9223372036854775807 then ((plain_RawOf.f k x196000 x196001 x196002 x196003 x196004 x196005 x196006 x196007 x196008 x196009 x1 x2 (t198 ++ x4)).bind fun bt199 => (if (bt199.1.length : Int) = (x3.length : Int) then (if bt199.2.1 = (t198.size : Int) then (if bt199.2.2 = 0 then ((format_Size.f x196000 x196001 x196002 x196003 x196004 x196005 x196006 x196007 x196008 x196009).bind fun t204 => (miradorlaw16_PlainBack.j1 k x1 x2 x3 x11 t198 bt199.1 bt199.2.1 (bt199.2.1 != (wrap64 ((wrap64 (x1 * x2)) * t204))) x196000 x196001 x196002 x196003 x196004 x196005 x196006 x196007 x196008 x196009)) else (miradorlaw16_PlainBack.j1 k x1 x2 x3 x11 t198 bt199.1 bt199.2.1 true x196000 x196001 x196002 x196003 x196004 x196005 x196006 x196007 x196008 x196009)) else (miradorlaw16_PlainBack.j1 k x1 x2 x3 x11 t198 bt199.1 bt199.2.1 true x196000 x196001 x196002 x196003 x196004 x196005 x196006 x196007 x196008 x196009)) else (miradorlaw16_PlainBack.j1 k x1 x2 x3 x11 t198 bt199.1 bt199.2.1 true x196000 x196001 x196002 x196003 x196004 x196005 x196006 x196007 x196008 x196009))) else (none)))
def miradorlaw16_PlainBack.j1 : Nat → Int → Int → List Int → Bool → ByteArray → List Int → Int → Bool → Int → Int → Bool → Bool → Int → Int → Int → Int → Int → Int → Option (Bool)
  | 0, _, _, _, _, _, _, _, _, _, _, _, _, _, _, _, _, _, _ => none
  | k + 1, x1, x2, x3, x11, x12, x13, x14, x85, x196000, x196001, x196002, x196003, x196004, x196005, x196006, x196007, x196008, x196009 => if x85 = true then (some false) else (miradorlaw16_PlainBack.l0 k x1 x2 x3 x11 x12 x13 x14 0 x196000 x196001 x196002 x196003 x196004 x196005 x196006 x196007 x196008 x196009)
def miradorlaw16_PlainBack.l0 : Nat → Int → Int → List Int → Bool → ByteArray → List Int → Int → Int → Int → Int → Bool → Bool → Int → Int → Int → Int → Int → Int → Option (Bool)
  | 0, _, _, _, _, _, _, _, _, _, _, _, _, _, _, _, _, _, _ => none
  | k + 1, x1, x2, x3, x11, x12, x13, x14, x16, x196000, x196001, x196002, x196003, x196004, x196005, x196006, x196007, x196008, x196009 => if x16 < (x3.length : Int) then (if 0 ≤ x16 then (if x16 < (x13.length : Int) then ((format_Quant.f x196000 x196001 x196002 x196003 x196004 x196005 x196006 x196007 x196008 x196009 (rd x3 x16)).bind fun t207 => (if (rd x13 x16) = t207 then (miradorlaw16_PlainBack.l0 k x1 x2 x3 x11 x12 x13 x14 (wrap64 (x16 + 1)) x196000 x196001 x196002 x196003 x196004 x196005 x196006 x196007 x196008 x196009) else (some false))) else (none)) else (none)) else (if x14 = 0 then (some x11) else (if 0 ≤ (wrap64 (x14 - 1)) then (if (wrap64 (x14 - 1)) ≤ (x12.size : Int) then ((plain_RawOf.f k x196000 x196001 x196002 x196003 x196004 x196005 x196006 x196007 x196008 x196009 x1 x2 (x12.extract 0 ((wrap64 (x14 - 1)) : Int).toNat)).bind fun bt208 => (if x11 = true then (if bt208.2.1 = 0 then (some (bt208.2.2 == 2)) else (some false)) else (some false))) else (none)) else (none)))
end
def miradorlaw16_PlainBack.f (k : Nat) (a0_0 : Int) (a0_1 : Int) (a0_2 : Bool) (a0_3 : Bool) (a0_4 : Int) (a0_5 : Int) (a0_6 : Int) (a0_7 : Int) (a0_8 : Int) (a0_9 : Int) (a1 : Int) (a2 : Int) (l3 : List Int) (a4 : ByteArray) : Option (Bool) := (miradorlaw16_works.f k).bind fun t196 => (if t196 = true then (if (l3.length : Int) > 400 then (miradorlaw16_PlainBack.j0 k a1 a2 l3 a4 t196 true a0_0 a0_1 a0_2 a0_3 a0_4 a0_5 a0_6 a0_7 a0_8 a0_9) else (if (a4.size : Int) > 400 then (miradorlaw16_PlainBack.j0 k a1 a2 l3 a4 t196 true a0_0 a0_1 a0_2 a0_3 a0_4 a0_5 a0_6 a0_7 a0_8 a0_9) else ((plain_Fits.f a0_0 a0_1 a0_2 a0_3 a0_4 a0_5 a0_6 a0_7 a0_8 a0_9 a1 a2).bind fun t197 => (if t197 = true then (miradorlaw16_PlainBack.j0 k a1 a2 l3 a4 t196 ((l3.length : Int) != (wrap64 (a1 * a2))) a0_0 a0_1 a0_2 a0_3 a0_4 a0_5 a0_6 a0_7 a0_8 a0_9) else (miradorlaw16_PlainBack.j0 k a1 a2 l3 a4 t196 true a0_0 a0_1 a0_2 a0_3 a0_4 a0_5 a0_6 a0_7 a0_8 a0_9))))) else (some false))
theorem miradorlaw16_PlainBack.mono_l : ∀ k, (∀ y0 y1 y2 y3 y4 y5 y6 y7 y8 y9 y10 y11 y12 y13 y14 y15, LeO (miradorlaw16_PlainBack.j0 k y0 y1 y2 y3 y4 y5 y6 y7 y8 y9 y10 y11 y12 y13 y14 y15) (miradorlaw16_PlainBack.j0 (k + 1) y0 y1 y2 y3 y4 y5 y6 y7 y8 y9 y10 y11 y12 y13 y14 y15)) ∧ (∀ y0 y1 y2 y3 y4 y5 y6 y7 y8 y9 y10 y11 y12 y13 y14 y15 y16 y17, LeO (miradorlaw16_PlainBack.j1 k y0 y1 y2 y3 y4 y5 y6 y7 y8 y9 y10 y11 y12 y13 y14 y15 y16 y17) (miradorlaw16_PlainBack.j1 (k + 1) y0 y1 y2 y3 y4 y5 y6 y7 y8 y9 y10 y11 y12 y13 y14 y15 y16 y17)) ∧ (∀ y0 y1 y2 y3 y4 y5 y6 y7 y8 y9 y10 y11 y12 y13 y14 y15 y16 y17, LeO (miradorlaw16_PlainBack.l0 k y0 y1 y2 y3 y4 y5 y6 y7 y8 y9 y10 y11 y12 y13 y14 y15 y16 y17) (miradorlaw16_PlainBack.l0 (k + 1) y0 y1 y2 y3 y4 y5 y6 y7 y8 y9 y10 y11 y12 y13 y14 y15 y16 y17))
  | 0 => ⟨fun _ _ _ _ _ _ _ _ _ _ _ _ _ _ _ _ r h => by simp [miradorlaw16_PlainBack.j0] at h, fun _ _ _ _ _ _ _ _ _ _ _ _ _ _ _ _ _ _ r h => by simp [miradorlaw16_PlainBack.j1] at h, fun _ _ _ _ _ _ _ _ _ _ _ _ _ _ _ _ _ _ r h => by simp [miradorlaw16_PlainBack.l0] at h⟩
  | k + 1 => by
    obtain ⟨ih0, ih1, ih2⟩ := miradorlaw16_PlainBack.mono_l k
    refine ⟨?_, ?_, ?_⟩
    · intro y0 y1 y2 y3 y4 y5 y6 y7 y8 y9 y10 y11 y12 y13 y14 y15
      unfold miradorlaw16_PlainBack.j0
      repeat' first
      | (with_reducible exact ih0 _ _ _ _ _ _ _ _ _ _ _ _ _ _ _ _)
      | (with_reducible exact ih1 _ _ _ _ _ _ _ _ _ _ _ _ _ _ _ _ _ _)
      | (with_reducible exact ih2 _ _ _ _ _ _ _ _ _ _ _ _ _ _ _ _ _ _)
      | (with_reducible exact miradorlaw16_works.mono _)
      | (with_reducible exact plain_Raw.mono _ _ _ _ _ _ _ _ _ _ _ _)
      | (with_reducible exact plain_RawOf.mono _ _ _ _ _ _ _ _ _ _ _ _ _ _)
      | (with_reducible exact LeO.refl _)
      | (with_reducible exact LeO.none _)
      | (with_reducible refine LeO.ite ?_ ?_)
      | (with_reducible refine LeO.bind ?_ (fun _ => ?_))
      | exact ih0 _ _ _ _ _ _ _ _ _ _ _ _ _ _ _ _
      | exact ih1 _ _ _ _ _ _ _ _ _ _ _ _ _ _ _ _ _ _
      | exact ih2 _ _ _ _ _ _ _ _ _ _ _ _ _ _ _ _ _ _
      | exact miradorlaw16_works.mono _
      | exact plain_Raw.mono _ _ _ _ _ _ _ _ _ _ _ _
      | exact plain_RawOf.mono _ _ _ _ _ _ _ _ _ _ _ _ _ _
      | exact LeO.none _
      | refine LeO.ite ?_ ?_
      | refine LeO.bind ?_ (fun _ => ?_)
    · intro y0 y1 y2 y3 y4 y5 y6 y7 y8 y9 y10 y11 y12 y13 y14 y15 y16 y17
      unfold miradorlaw16_PlainBack.j1
      repeat' first
      | (with_reducible exact ih0 _ _ _ _ _ _ _ _ _ _ _ _ _ _ _ _)
      | (with_reducible exact ih1 _ _ _ _ _ _ _ _ _ _ _ _ _ _ _ _ _ _)
      | (with_reducible exact ih2 _ _ _ _ _ _ _ _ _ _ _ _ _ _ _ _ _ _)
      | (with_reducible exact miradorlaw16_works.mono _)
      | (with_reducible exact plain_Raw.mono _ _ _ _ _ _ _ _ _ _ _ _)
      | (with_reducible exact plain_RawOf.mono _ _ _ _ _ _ _ _ _ _ _ _ _ _)
      | (with_reducible exact LeO.refl _)
      | (with_reducible exact LeO.none _)
      | (with_reducible refine LeO.ite ?_ ?_)
      | (with_reducible refine LeO.bind ?_ (fun _ => ?_))
      | exact ih0 _ _ _ _ _ _ _ _ _ _ _ _ _ _ _ _
      | exact ih1 _ _ _ _ _ _ _ _ _ _ _ _ _ _ _ _ _ _
      | exact ih2 _ _ _ _ _ _ _ _ _ _ _ _ _ _ _ _ _ _
      | exact miradorlaw16_works.mono _
      | exact plain_Raw.mono _ _ _ _ _ _ _ _ _ _ _ _
      | exact plain_RawOf.mono _ _ _ _ _ _ _ _ _ _ _ _ _ _
      | exact LeO.none _
      | refine LeO.ite ?_ ?_
      | refine LeO.bind ?_ (fun _ => ?_)
    · intro y0 y1 y2 y3 y4 y5 y6 y7 y8 y9 y10 y11 y12 y13 y14 y15 y16 y17
      unfold miradorlaw16_PlainBack.l0
      repeat' first
      | (with_reducible exact ih0 _ _ _ _ _ _ _ _ _ _ _ _ _ _ _ _)
      | (with_reducible exact ih1 _ _ _ _ _ _ _ _ _ _ _ _ _ _ _ _ _ _)
      | (with_reducible exact ih2 _ _ _ _ _ _ _ _ _ _ _ _ _ _ _ _ _ _)
      | (with_reducible exact miradorlaw16_works.mono _)
      | (with_reducible exact plain_Raw.mono _ _ _ _ _ _ _ _ _ _ _ _)
      | (with_reducible exact plain_RawOf.mono _ _ _ _ _ _ _ _ _ _ _ _ _ _)
      | (with_reducible exact LeO.refl _)
      | (with_reducible exact LeO.none _)
      | (with_reducible refine LeO.ite ?_ ?_)
      | (with_reducible refine LeO.bind ?_ (fun _ => ?_))
      | exact ih0 _ _ _ _ _ _ _ _ _ _ _ _ _ _ _ _
      | exact ih1 _ _ _ _ _ _ _ _ _ _ _ _ _ _ _ _ _ _
      | exact ih2 _ _ _ _ _ _ _ _ _ _ _ _ _ _ _ _ _ _
      | exact miradorlaw16_works.mono _
      | exact plain_Raw.mono _ _ _ _ _ _ _ _ _ _ _ _
      | exact plain_RawOf.mono _ _ _ _ _ _ _ _ _ _ _ _ _ _
      | exact LeO.none _
      | refine LeO.ite ?_ ?_
      | refine LeO.bind ?_ (fun _ => ?_)
theorem miradorlaw16_PlainBack.mono : ∀ a0 a1 a2 a3 a4 a5 a6 a7 a8 a9 a10 a11 a12 a13 k, LeO (miradorlaw16_PlainBack.f k a0 a1 a2 a3 a4 a5 a6 a7 a8 a9 a10 a11 a12 a13) (miradorlaw16_PlainBack.f (k + 1) a0 a1 a2 a3 a4 a5 a6 a7 a8 a9 a10 a11 a12 a13) := by
  intro a0 a1 a2 a3 a4 a5 a6 a7 a8 a9 a10 a11 a12 a13 k
  obtain ⟨ih0, ih1, ih2⟩ := miradorlaw16_PlainBack.mono_l k
  unfold miradorlaw16_PlainBack.f
  repeat' first
      | (with_reducible exact ih0 _ _ _ _ _ _ _ _ _ _ _ _ _ _ _ _)
      | (with_reducible exact ih1 _ _ _ _ _ _ _ _ _ _ _ _ _ _ _ _ _ _)
      | (with_reducible exact ih2 _ _ _ _ _ _ _ _ _ _ _ _ _ _ _ _ _ _)
      | (with_reducible exact miradorlaw16_works.mono _)
      | (with_reducible exact plain_Raw.mono _ _ _ _ _ _ _ _ _ _ _ _)
      | (with_reducible exact plain_RawOf.mono _ _ _ _ _ _ _ _ _ _ _ _ _ _)
      | (with_reducible exact LeO.refl _)
      | (with_reducible exact LeO.none _)
      | (with_reducible refine LeO.ite ?_ ?_)
      | (with_reducible refine LeO.bind ?_ (fun _ => ?_))
      | exact ih0 _ _ _ _ _ _ _ _ _ _ _ _ _ _ _ _
      | exact ih1 _ _ _ _ _ _ _ _ _ _ _ _ _ _ _ _ _ _
      | exact ih2 _ _ _ _ _ _ _ _ _ _ _ _ _ _ _ _ _ _
      | exact miradorlaw16_works.mono _
      | exact plain_Raw.mono _ _ _ _ _ _ _ _ _ _ _ _
      | exact plain_RawOf.mono _ _ _ _ _ _ _ _ _ _ _ _ _ _
      | exact LeO.none _
      | refine LeO.ite ?_ ?_
      | refine LeO.bind ?_ (fun _ => ?_)
def miradorlaw16_PlainBack.T13 : Bool × List (List Nat × List Nat) := (true, [([], []), ([], []), ([0, 1], [0, 1]), ([2], [2]), ([], []), ([], []), ([], []), ([5, 6], [5, 6]), ([7], [7]), ([4, 8], [4, 8]), ([3, 9], [3, 9])])
def miradorlaw16_PlainBack.B13 : List Nat := [0, 0, 3, 7, 0, 0, 0, 96, 224, 496, 1023]
theorem miradorlaw16_PlainBack.tab13 : rtab .any (opsOf Try.f3 13) = miradorlaw16_PlainBack.T13 := by kernel_rfl
theorem miradorlaw16_PlainBack.bits13 : waitsOk miradorlaw16_PlainBack.T13.2 miradorlaw16_PlainBack.B13 = true := by kernel_rfl
def miradorlaw16_PlainBack.T17 : Bool × List (List Nat × List Nat) := (true, [([], []), ([], []), ([], []), ([], []), ([], []), ([4], [4]), ([3, 5], [3, 5]), ([0, 1, 2, 6], [0, 1, 2, 6]), ([7], [7]), ([8], [8]), ([8], [8]), ([8], [8]), ([9, 7, 0, 1, 2, 3, 4, 5, 6, 7, 8, 9], [9]), ([10, 12, 0, 1, 2, 3, 4, 5, 6, 7, 8, 9, 10, 12], [10]), ([11, 13, 0, 1, 2, 3, 4, 5, 6, 7, 8, 9, 10, 11, 12, 13], [11])])
def miradorlaw16_PlainBack.B17 : List Nat := [0, 0, 0, 0, 0, 16, 56, 127, 255, 511, 511, 511, 1023, 6143, 16383]
theorem miradorlaw16_PlainBack.tab17 : rtab .any (opsOf Try.f3 17) = miradorlaw16_PlainBack.T17 := by kernel_rfl
theorem miradorlaw16_PlainBack.bits17 : waitsOk miradorlaw16_PlainBack.T17.2 miradorlaw16_PlainBack.B17 = true := by kernel_rfl
set_option maxHeartbeats 8000000 in
set_option maxRecDepth 100000 in
theorem miradorlaw16_PlainBack.calls1 (k : Nat) (a0_0 : Int) (a0_1 : Int) (a0_2 : Bool) (a0_3 : Bool) (a0_4 : Int) (a0_5 : Int) (a0_6 : Int) (a0_7 : Int) (a0_8 : Int) (a0_9 : Int) (a1 : Int) (a2 : Int) (A3 : Option Addr) (c3 : Nat) (l3 : List Int) (a4 : ByteArray) (r : Bool) (w : World) (hr3 : Kd.C (Kd.int .i64) w A3 l3.length l3) (hc3 : l3.length ≤ c3) (hr_ : r = true) (h : miradorlaw16_PlainBack.f k a0_0 a0_1 a0_2 a0_3 a0_4 a0_5 a0_6 a0_7 a0_8 a0_9 a1 a2 l3 a4 = some r) :
    Calls Try.prog 3 #[.agg #[.int .i64 a0_0, .int .i64 a0_1, .bool a0_2, .bool a0_3, .int .i64 a0_4, .int .i64 a0_5, .int .i64 a0_6, .int .i64 a0_7, .int .i64 a0_8, .int .i64 a0_9], .int .i64 a1, .int .i64 a2, .slice A3 l3.length c3, .string a4] w fun e w' => e = .returned (.bool r) ∧ Below w.heap.size w w' := by
  have hu23 := Try.underlying23
  have HR3 := Aside0.mk hr3
  have HC3 := Aside0.mk hc3
  clear hr3 hc3
  have HB := Aside0.mk (Below.refl w.heap.size w)
  have H : ((miradorlaw16_works.f k).bind fun t196 => (if t196 = true then (if (l3.length : Int) > 400 then (miradorlaw16_PlainBack.j0 k a1 a2 l3 a4 t196 true a0_0 a0_1 a0_2 a0_3 a0_4 a0_5 a0_6 a0_7 a0_8 a0_9) else (if (a4.size : Int) > 400 then (miradorlaw16_PlainBack.j0 k a1 a2 l3 a4 t196 true a0_0 a0_1 a0_2 a0_3 a0_4 a0_5 a0_6 a0_7 a0_8 a0_9) else ((plain_Fits.f a0_0 a0_1 a0_2 a0_3 a0_4 a0_5 a0_6 a0_7 a0_8 a0_9 a1 a2).bind fun t197 => (if t197 = true then (miradorlaw16_PlainBack.j0 k a1 a2 l3 a4 t196 ((l3.length : Int) != (wrap64 (a1 * a2))) a0_0 a0_1 a0_2 a0_3 a0_4 a0_5 a0_6 a0_7 a0_8 a0_9) else (miradorlaw16_PlainBack.j0 k a1 a2 l3 a4 t196 true a0_0 a0_1 a0_2 a0_3 a0_4 a0_5 a0_6 a0_7 a0_8 a0_9))))) else (some false))) = some r := h
  clear h
  have HRT := Aside0.mk hr_
  clear hr_
  replace H := Option.bind_eq_some_iff.mp H
  obtain ⟨t196, A60, H⟩ := H
  replace H : (if t196 = true then (if (l3.length : Int) > 400 then (miradorlaw16_PlainBack.j0 k a1 a2 l3 a4 t196 true a0_0 a0_1 a0_2 a0_3 a0_4 a0_5 a0_6 a0_7 a0_8 a0_9) else (if (a4.size : Int) > 400 then (miradorlaw16_PlainBack.j0 k a1 a2 l3 a4 t196 true a0_0 a0_1 a0_2 a0_3 a0_4 a0_5 a0_6 a0_7 a0_8 a0_9) else ((plain_Fits.f a0_0 a0_1 a0_2 a0_3 a0_4 a0_5 a0_6 a0_7 a0_8 a0_9 a1 a2).bind fun t197 => (if t197 = true then (miradorlaw16_PlainBack.j0 k a1 a2 l3 a4 t196 ((l3.length : Int) != (wrap64 (a1 * a2))) a0_0 a0_1 a0_2 a0_3 a0_4 a0_5 a0_6 a0_7 a0_8 a0_9) else (miradorlaw16_PlainBack.j0 k a1 a2 l3 a4 t196 true a0_0 a0_1 a0_2 a0_3 a0_4 a0_5 a0_6 a0_7 a0_8 a0_9))))) else (some false)) = some r := H
  have A6 := Aside0.mk A60
  clear A60
  by_cases c7 : t196 = true
  · subst c7
    have H1 : (if (l3.length : Int) > 400 then (miradorlaw16_PlainBack.j0 k a1 a2 l3 a4 true true a0_0 a0_1 a0_2 a0_3 a0_4 a0_5 a0_6 a0_7 a0_8 a0_9) else (if (a4.size : Int) > 400 then (miradorlaw16_PlainBack.j0 k a1 a2 l3 a4 true true a0_0 a0_1 a0_2 a0_3 a0_4 a0_5 a0_6 a0_7 a0_8 a0_9) else ((plain_Fits.f a0_0 a0_1 a0_2 a0_3 a0_4 a0_5 a0_6 a0_7 a0_8 a0_9 a1 a2).bind fun t197 => (if t197 = true then (miradorlaw16_PlainBack.j0 k a1 a2 l3 a4 true ((l3.length : Int) != (wrap64 (a1 * a2))) a0_0 a0_1 a0_2 a0_3 a0_4 a0_5 a0_6 a0_7 a0_8 a0_9) else (miradorlaw16_PlainBack.j0 k a1 a2 l3 a4 true true a0_0 a0_1 a0_2 a0_3 a0_4 a0_5 a0_6 a0_7 a0_8 a0_9))))) = some r := by rw [if_pos rfl] at H; exact H
    clear H
    have H := H1
    clear H1
    have HC8 := Aside0.mk H
    clear H
    go_enter Try.func3, Try.ntmps3
    go_upto_region 4 with (first | ((with_reducible refine gate_dst (N := 5) rfl ?_); (try (refine gate_guard (by rfl) ?_; dsimp only)); refine box_event ?hg (N := 5) ?hd (cs := #[.int .i64 a0_0, .int .i64 a0_1, .bool a0_2, .bool a0_3, .int .i64 a0_4, .int .i64 a0_5, .int .i64 a0_6, .int .i64 a0_7, .int .i64 a0_8, .int .i64 a0_9]) (t := 23) ?hr ?_; (case hd => rfl); (case hg => rfl); (case hr => first | (go_simp; done) | (go_simp; rfl)); intro gb195 hg w9 hbox hb; have n0_ := Aside0.mk (below_step (by repeat (first | (with_reducible first | exact HB.out | apply below_alloc | apply pw_below_drewN | apply below_drew1) | exact HB.out)) hb); have n1_ := Aside0.mk (hbox); have n2_ := Aside0.mk ((by rw [hg]; exact (below_size (by repeat (first | (with_reducible first | exact HB.out | apply below_alloc | apply pw_below_drewN | apply below_drew1) | exact HB.out))) : w.heap.size ≤ gb195)); have n3_ := Aside0.mk ((by rw [hg]; exact (below_size (by repeat (first | (with_reducible first | exact HB.out | apply below_alloc | apply pw_below_drewN | apply below_drew1) | exact HB.out))) : w.heap.size ≤ gb195)); clear HB; have HB := n0_; have BK195 := n1_; have GW195 := n2_; have GE195 := n3_; clear n0_ n1_ n2_ n3_; clear hb hbox hg) | ((with_reducible refine gate_callee (f := 7) rfl ?_); refine goesL_ (some 20) rfl rfl Try.func7 (by kernel_rfl) rfl #[] rfl (by (try simp only [List.map_toArray, List.map_cons, List.map_nil]); first | done | rfl | (simp only [List.length_drop, List.length_take]; rfl)) ?_; (with_reducible refine (miradorlaw16_works.calls k  true _ A6.out).mono ?_); rintro e w10 ⟨rfl, hb⟩; refine ⟨_, rfl, ?_⟩; have n0_ := Aside0.mk (blk_below (g := gb195) (o := .cells #[.int .i64 a0_0, .int .i64 a0_1, .bool a0_2, .bool a0_3, .int .i64 a0_4, .int .i64 a0_5, .int .i64 a0_6, .int .i64 a0_7, .int .i64 a0_8, .int .i64 a0_9] 23 (0, 0)) (by (with_reducible repeat (first | refine blk_drewN ?_ _ | refine blk_drew ?_ | refine blk_alloc ?_ _)); exact BK195.out) hb); have n1_ := Aside0.mk (below_step (by repeat (first | (with_reducible first | exact HB.out | apply below_alloc | apply pw_below_drewN | apply below_drew1 | refine below_set ?_ GE195.out) | exact HB.out)) hb); clear BK195; clear HB; have BK195 := n0_; have HB := n1_; clear n0_ n1_; (try clear hb); (try clear hb2); (try clear hk); (try clear hi)))
    (try simp only [Act.put, List.setIfInBounds_toArray, List.set_cons_zero, List.set_cons_succ])
    go_cut [45] (fun v45 wc => ∃ (kq : Nat) (x45_7 : Bool), v45 = .bool x45_7 ∧ Aside0 (miradorlaw16_PlainBack.j0 kq a1 a2 l3 a4 true x45_7 a0_0 a0_1 a0_2 a0_3 a0_4 a0_5 a0_6 a0_7 a0_8 a0_9 = some r) ∧ Aside0 (kq ≤ k) ∧ Aside0 (wc.heap[gb195]? = some (.cells #[.int .i64 a0_0, .int .i64 a0_1, .bool a0_2, .bool a0_3, .int .i64 a0_4, .int .i64 a0_5, .int .i64 a0_6, .int .i64 a0_7, .int .i64 a0_8, .int .i64 a0_9] 23 (0, 0))) ∧ Aside0 (Below w.heap.size w wc))
    case first =>
      have H := HC8.out
      clear HC8
      by_cases c11 : (l3.length : Int) > 400
      · rw [if_pos c11] at H
        have c11b0 : decide (400 < (l3.length : Int)) = true := decide_eq_true c11
        have c11b1 : decide (400 < l3.length) = true := decide_eq_true (by omega)
        clear c11
        (first | rw [c11b0] | (simp only [i64_w, i32_w]; rw [c11b0]) | skip)
        have H' := Aside0.mk H
        clear H
        go_wp2
        go_meet
        case rel => exact ⟨_, (true), (by first | rfl | (simp; done) | (simp [*]; done)), H', ⟨by first | omega | exact Nat.le_refl _⟩, ⟨by (with_reducible repeat (first | refine blk_drewN ?_ _ | refine blk_drew ?_ | refine blk_alloc ?_ _)); exact BK195.out⟩, ⟨by repeat (first | (with_reducible first | exact HB.out | apply below_alloc | apply pw_below_drewN | apply below_drew1 | refine below_set ?_ GE195.out) | exact HB.out)⟩⟩
      · rw [if_neg c11] at H
        have c11b0 : decide (400 < (l3.length : Int)) = false := decide_eq_false c11
        have c11b1 : decide (400 < l3.length) = false := decide_eq_false (by omega)
        clear c11
        (first | rw [c11b0] | (simp only [i64_w, i32_w]; rw [c11b0]) | skip)
        by_cases c12 : (a4.size : Int) > 400
        · rw [if_pos c12] at H
          have c12b0 : decide (400 < (a4.size : Int)) = true := decide_eq_true c12
          have c12b1 : decide (400 < a4.size) = true := decide_eq_true (by omega)
          clear c12
          have H' := Aside0.mk H
          clear H
          go_wp2
          go_meet
          case rel => exact ⟨_, (true), (by first | rfl | (simp; done) | (simp [*]; done)), H', ⟨by first | omega | exact Nat.le_refl _⟩, ⟨by (with_reducible repeat (first | refine blk_drewN ?_ _ | refine blk_drew ?_ | refine blk_alloc ?_ _)); exact BK195.out⟩, ⟨by repeat (first | (with_reducible first | exact HB.out | apply below_alloc | apply pw_below_drewN | apply below_drew1 | refine below_set ?_ GE195.out) | exact HB.out)⟩⟩
        · rw [if_neg c12] at H
          have c12b0 : decide (400 < (a4.size : Int)) = false := decide_eq_false c12
          have c12b1 : decide (400 < a4.size) = false := decide_eq_false (by omega)
          clear c12
          replace H := Option.bind_eq_some_iff.mp H
          obtain ⟨t197, A130, H⟩ := H
          replace H : (if t197 = true then (miradorlaw16_PlainBack.j0 k a1 a2 l3 a4 true ((l3.length : Int) != (wrap64 (a1 * a2))) a0_0 a0_1 a0_2 a0_3 a0_4 a0_5 a0_6 a0_7 a0_8 a0_9) else (miradorlaw16_PlainBack.j0 k a1 a2 l3 a4 true true a0_0 a0_1 a0_2 a0_3 a0_4 a0_5 a0_6 a0_7 a0_8 a0_9)) = some r := H
          have A13 := Aside0.mk A130
          clear A130
          by_cases c14 : t197 = true
          · subst c14
            have H1 : (miradorlaw16_PlainBack.j0 k a1 a2 l3 a4 true ((l3.length : Int) != (wrap64 (a1 * a2))) a0_0 a0_1 a0_2 a0_3 a0_4 a0_5 a0_6 a0_7 a0_8 a0_9) = some r := by rw [if_pos rfl] at H; exact H
            clear H
            have H := H1
            clear H1
            have H' := Aside0.mk H
            clear H
            have hcz15_0 : w10.cell? ⟨gb195, 0, none⟩ = some (.int .i64 a0_0) := (blk_cell BK195.out 0).trans rfl
            have hcz15_1 : w10.cell? ⟨gb195, 1, none⟩ = some (.int .i64 a0_1) := (blk_cell BK195.out 1).trans rfl
            have hcz15_2 : w10.cell? ⟨gb195, 2, none⟩ = some (.bool a0_2) := (blk_cell BK195.out 2).trans rfl
            have hcz15_3 : w10.cell? ⟨gb195, 3, none⟩ = some (.bool a0_3) := (blk_cell BK195.out 3).trans rfl
            have hcz15_4 : w10.cell? ⟨gb195, 4, none⟩ = some (.int .i64 a0_4) := (blk_cell BK195.out 4).trans rfl
            have hcz15_5 : w10.cell? ⟨gb195, 5, none⟩ = some (.int .i64 a0_5) := (blk_cell BK195.out 5).trans rfl
            have hcz15_6 : w10.cell? ⟨gb195, 6, none⟩ = some (.int .i64 a0_6) := (blk_cell BK195.out 6).trans rfl
            have hcz15_7 : w10.cell? ⟨gb195, 7, none⟩ = some (.int .i64 a0_7) := (blk_cell BK195.out 7).trans rfl
            have hcz15_8 : w10.cell? ⟨gb195, 8, none⟩ = some (.int .i64 a0_8) := (blk_cell BK195.out 8).trans rfl
            have hcz15_9 : w10.cell? ⟨gb195, 9, none⟩ = some (.int .i64 a0_9) := (blk_cell BK195.out 9).trans rfl
            have hfz15_0 := blk_frozen BK195.out 0
            have hfz15_1 := blk_frozen BK195.out 1
            have hfz15_2 := blk_frozen BK195.out 2
            have hfz15_3 := blk_frozen BK195.out 3
            have hfz15_4 := blk_frozen BK195.out 4
            have hfz15_5 := blk_frozen BK195.out 5
            have hfz15_6 := blk_frozen BK195.out 6
            have hfz15_7 := blk_frozen BK195.out 7
            have hfz15_8 := blk_frozen BK195.out 8
            have hfz15_9 := blk_frozen BK195.out 9
            go_wp2_with (first | (go_at_call 8; (with_reducible refine (plain_Fits.calls a0_0 a0_1 a0_2 a0_3 a0_4 a0_5 a0_6 a0_7 a0_8 a0_9 a1 a2 true _ A13.out).mono ?_); rintro e w16 ⟨rfl, hb⟩; have n0_ := Aside0.mk (blk_below (g := gb195) (o := .cells #[.int .i64 a0_0, .int .i64 a0_1, .bool a0_2, .bool a0_3, .int .i64 a0_4, .int .i64 a0_5, .int .i64 a0_6, .int .i64 a0_7, .int .i64 a0_8, .int .i64 a0_9] 23 (0, 0)) (by (with_reducible repeat (first | refine blk_drewN ?_ _ | refine blk_drew ?_ | refine blk_alloc ?_ _)); exact BK195.out) hb); have n1_ := Aside0.mk (below_step (by repeat (first | (with_reducible first | exact HB.out | apply below_alloc | apply pw_below_drewN | apply below_drew1 | refine below_set ?_ GE195.out) | exact HB.out)) hb); clear BK195; clear HB; have BK195 := n0_; have HB := n1_; clear n0_ n1_; (try clear hb); (try clear hb2); (try clear hk); (try clear hi)))
            go_meet
            case rel => exact ⟨_, (((l3.length : Int) != (wrap64 (a1 * a2)))), (by first | rfl | (simp; done) | (simp [*]; done)), H', ⟨by first | omega | exact Nat.le_refl _⟩, ⟨by (with_reducible repeat (first | refine blk_drewN ?_ _ | refine blk_drew ?_ | refine blk_alloc ?_ _)); exact BK195.out⟩, ⟨by repeat (first | (with_reducible first | exact HB.out | apply below_alloc | apply pw_below_drewN | apply below_drew1 | refine below_set ?_ GE195.out) | exact HB.out)⟩⟩
          · replace c14 := Bool.eq_false_iff.mpr c14
            subst c14
            have H1 : (miradorlaw16_PlainBack.j0 k a1 a2 l3 a4 true true a0_0 a0_1 a0_2 a0_3 a0_4 a0_5 a0_6 a0_7 a0_8 a0_9) = some r := by rw [if_neg (show ¬ (false = true) by decide)] at H; exact H
            clear H
            have H := H1
            clear H1
            have H' := Aside0.mk H
            clear H
            have hcz17_0 : w10.cell? ⟨gb195, 0, none⟩ = some (.int .i64 a0_0) := (blk_cell BK195.out 0).trans rfl
            have hcz17_1 : w10.cell? ⟨gb195, 1, none⟩ = some (.int .i64 a0_1) := (blk_cell BK195.out 1).trans rfl
            have hcz17_2 : w10.cell? ⟨gb195, 2, none⟩ = some (.bool a0_2) := (blk_cell BK195.out 2).trans rfl
            have hcz17_3 : w10.cell? ⟨gb195, 3, none⟩ = some (.bool a0_3) := (blk_cell BK195.out 3).trans rfl
            have hcz17_4 : w10.cell? ⟨gb195, 4, none⟩ = some (.int .i64 a0_4) := (blk_cell BK195.out 4).trans rfl
            have hcz17_5 : w10.cell? ⟨gb195, 5, none⟩ = some (.int .i64 a0_5) := (blk_cell BK195.out 5).trans rfl
            have hcz17_6 : w10.cell? ⟨gb195, 6, none⟩ = some (.int .i64 a0_6) := (blk_cell BK195.out 6).trans rfl
            have hcz17_7 : w10.cell? ⟨gb195, 7, none⟩ = some (.int .i64 a0_7) := (blk_cell BK195.out 7).trans rfl
            have hcz17_8 : w10.cell? ⟨gb195, 8, none⟩ = some (.int .i64 a0_8) := (blk_cell BK195.out 8).trans rfl
            have hcz17_9 : w10.cell? ⟨gb195, 9, none⟩ = some (.int .i64 a0_9) := (blk_cell BK195.out 9).trans rfl
            have hfz17_0 := blk_frozen BK195.out 0
            have hfz17_1 := blk_frozen BK195.out 1
            have hfz17_2 := blk_frozen BK195.out 2
            have hfz17_3 := blk_frozen BK195.out 3
            have hfz17_4 := blk_frozen BK195.out 4
            have hfz17_5 := blk_frozen BK195.out 5
            have hfz17_6 := blk_frozen BK195.out 6
            have hfz17_7 := blk_frozen BK195.out 7
            have hfz17_8 := blk_frozen BK195.out 8
            have hfz17_9 := blk_frozen BK195.out 9
            go_wp2_with (first | (go_at_call 8; (with_reducible refine (plain_Fits.calls a0_0 a0_1 a0_2 a0_3 a0_4 a0_5 a0_6 a0_7 a0_8 a0_9 a1 a2 false _ A13.out).mono ?_); rintro e w18 ⟨rfl, hb⟩; have n0_ := Aside0.mk (blk_below (g := gb195) (o := .cells #[.int .i64 a0_0, .int .i64 a0_1, .bool a0_2, .bool a0_3, .int .i64 a0_4, .int .i64 a0_5, .int .i64 a0_6, .int .i64 a0_7, .int .i64 a0_8, .int .i64 a0_9] 23 (0, 0)) (by (with_reducible repeat (first | refine blk_drewN ?_ _ | refine blk_drew ?_ | refine blk_alloc ?_ _)); exact BK195.out) hb); have n1_ := Aside0.mk (below_step (by repeat (first | (with_reducible first | exact HB.out | apply below_alloc | apply pw_below_drewN | apply below_drew1 | refine below_set ?_ GE195.out) | exact HB.out)) hb); clear BK195; clear HB; have BK195 := n0_; have HB := n1_; clear n0_ n1_; (try clear hb); (try clear hb2); (try clear hk); (try clear hi)))
            go_meet
            case rel => exact ⟨_, (true), (by first | rfl | (simp; done) | (simp [*]; done)), H', ⟨by first | omega | exact Nat.le_refl _⟩, ⟨by (with_reducible repeat (first | refine blk_drewN ?_ _ | refine blk_drew ?_ | refine blk_alloc ?_ _)); exact BK195.out⟩, ⟨by repeat (first | (with_reducible first | exact HB.out | apply below_alloc | apply pw_below_drewN | apply below_drew1 | refine below_set ?_ GE195.out) | exact HB.out)⟩⟩
    case rest =>
      clear HC8
      try clear c1
      try clear p2
      try clear c3
      try clear p6
      try clear c7
      try clear c11
      try clear c11b0
      try clear c11b1
      try clear c12
      try clear c12b0
      try clear c12b1
      try clear c14
      try clear hcz15_0
      try clear hcz15_1
      try clear hcz15_2
      try clear hcz15_3
      try clear hcz15_4
      try clear hcz15_5
      try clear hcz15_6
      try clear hcz15_7
      try clear hcz15_8
      try clear hcz15_9
      try clear hcz17_0
      try clear hcz17_1
      try clear hcz17_2
      try clear hcz17_3
      try clear hcz17_4
      try clear hcz17_5
      try clear hcz17_6
      try clear hcz17_7
      try clear hcz17_8
      try clear hcz17_9
      try clear hfz15_0
      try clear hfz15_1
      try clear hfz15_2
      try clear hfz15_3
      try clear hfz15_4
      try clear hfz15_5
      try clear hfz15_6
      try clear hfz15_7
      try clear hfz15_8
      try clear hfz15_9
      try clear hfz17_0
      try clear hfz17_1
      try clear hfz17_2
      try clear hfz17_3
      try clear hfz17_4
      try clear hfz17_5
      try clear hfz17_6
      try clear hfz17_7
      try clear hfz17_8
      try clear hfz17_9
      obtain ⟨kq, x45_7, rfl, HA, HJ7, BK195, HB⟩ := hcut
      cases kq with
      | zero => exact absurd HA.out (by simp [miradorlaw16_PlainBack.j0])
      | succ kj7 =>
        have H := HA.out
        clear HA
        simp only [miradorlaw16_PlainBack.j0] at H
        by_cases c19 : x45_7 = true
        · subst c19
          have H1 : (some true) = some r := by rw [if_pos rfl] at H; exact H
          clear H
          have H := H1
          clear H1
          obtain rfl := Option.some.inj H
          go_wp2
          go_ret
          exact ⟨by first | rfl | (simp [errW_none, errW_some] <;> rfl) | (simp [*, errW_none, errW_some] <;> rfl), by repeat (first | (with_reducible first | exact HB.out | apply below_alloc | apply pw_below_drewN | apply below_drew1 | refine below_set ?_ GE195.out) | exact HB.out)⟩
        · replace c19 := Bool.eq_false_iff.mpr c19
          subst c19
          have H1 : ((plain_Raw.f kj7 a0_0 a0_1 a0_2 a0_3 a0_4 a0_5 a0_6 a0_7 a0_8 a0_9 l3).bind fun t198 => (if t198.size + a4.size ≤ 9223372036854775807 then ((plain_RawOf.f kj7 a0_0 a0_1 a0_2 a0_3 a0_4 a0_5 a0_6 a0_7 a0_8 a0_9 a1 a2 (t198 ++ a4)).bind fun bt199 => (if (bt199.1.length : Int) = (l3.length : Int) then (if bt199.2.1 = (t198.size : Int) then (if bt199.2.2 = 0 then ((format_Size.f a0_0 a0_1 a0_2 a0_3 a0_4 a0_5 a0_6 a0_7 a0_8 a0_9).bind fun t204 => (miradorlaw16_PlainBack.j1 kj7 a1 a2 l3 true t198 bt199.1 bt199.2.1 (bt199.2.1 != (wrap64 ((wrap64 (a1 * a2)) * t204))) a0_0 a0_1 a0_2 a0_3 a0_4 a0_5 a0_6 a0_7 a0_8 a0_9)) else (miradorlaw16_PlainBack.j1 kj7 a1 a2 l3 true t198 bt199.1 bt199.2.1 true a0_0 a0_1 a0_2 a0_3 a0_4 a0_5 a0_6 a0_7 a0_8 a0_9)) else (miradorlaw16_PlainBack.j1 kj7 a1 a2 l3 true t198 bt199.1 bt199.2.1 true a0_0 a0_1 a0_2 a0_3 a0_4 a0_5 a0_6 a0_7 a0_8 a0_9)) else (miradorlaw16_PlainBack.j1 kj7 a1 a2 l3 true t198 bt199.1 bt199.2.1 true a0_0 a0_1 a0_2 a0_3 a0_4 a0_5 a0_6 a0_7 a0_8 a0_9))) else (none))) = some r := by rw [if_neg (show ¬ (false = true) by decide)] at H; exact H
          clear H
          have H := H1
          clear H1
          replace H := Option.bind_eq_some_iff.mp H
          obtain ⟨t198, A200, H⟩ := H
          replace H : (if t198.size + a4.size ≤ 9223372036854775807 then ((plain_RawOf.f kj7 a0_0 a0_1 a0_2 a0_3 a0_4 a0_5 a0_6 a0_7 a0_8 a0_9 a1 a2 (t198 ++ a4)).bind fun bt199 => (if (bt199.1.length : Int) = (l3.length : Int) then (if bt199.2.1 = (t198.size : Int) then (if bt199.2.2 = 0 then ((format_Size.f a0_0 a0_1 a0_2 a0_3 a0_4 a0_5 a0_6 a0_7 a0_8 a0_9).bind fun t204 => (miradorlaw16_PlainBack.j1 kj7 a1 a2 l3 true t198 bt199.1 bt199.2.1 (bt199.2.1 != (wrap64 ((wrap64 (a1 * a2)) * t204))) a0_0 a0_1 a0_2 a0_3 a0_4 a0_5 a0_6 a0_7 a0_8 a0_9)) else (miradorlaw16_PlainBack.j1 kj7 a1 a2 l3 true t198 bt199.1 bt199.2.1 true a0_0 a0_1 a0_2 a0_3 a0_4 a0_5 a0_6 a0_7 a0_8 a0_9)) else (miradorlaw16_PlainBack.j1 kj7 a1 a2 l3 true t198 bt199.1 bt199.2.1 true a0_0 a0_1 a0_2 a0_3 a0_4 a0_5 a0_6 a0_7 a0_8 a0_9)) else (miradorlaw16_PlainBack.j1 kj7 a1 a2 l3 true t198 bt199.1 bt199.2.1 true a0_0 a0_1 a0_2 a0_3 a0_4 a0_5 a0_6 a0_7 a0_8 a0_9))) else (none)) = some r := H
          have A20 := Aside0.mk A200
          clear A200
          by_cases c21 : t198.size + a4.size ≤ 9223372036854775807
          · rw [if_pos c21] at H
            have c21b0 := eq_true c21
            have c21b1 : decide (t198.size + a4.size ≤ 9223372036854775807) = true := decide_eq_true c21
            try have c21b2 : (9223372036854775807 < t198.size + a4.size) = False := eq_false (Nat.not_lt.2 c21)
            replace H := Option.bind_eq_some_iff.mp H
            obtain ⟨⟨t199, t202, t203⟩, A220, H⟩ := H
            replace H : (if (t199.length : Int) = (l3.length : Int) then (if t202 = (t198.size : Int) then (if t203 = 0 then ((format_Size.f a0_0 a0_1 a0_2 a0_3 a0_4 a0_5 a0_6 a0_7 a0_8 a0_9).bind fun t204 => (miradorlaw16_PlainBack.j1 kj7 a1 a2 l3 true t198 t199 t202 (t202 != (wrap64 ((wrap64 (a1 * a2)) * t204))) a0_0 a0_1 a0_2 a0_3 a0_4 a0_5 a0_6 a0_7 a0_8 a0_9)) else (miradorlaw16_PlainBack.j1 kj7 a1 a2 l3 true t198 t199 t202 true a0_0 a0_1 a0_2 a0_3 a0_4 a0_5 a0_6 a0_7 a0_8 a0_9)) else (miradorlaw16_PlainBack.j1 kj7 a1 a2 l3 true t198 t199 t202 true a0_0 a0_1 a0_2 a0_3 a0_4 a0_5 a0_6 a0_7 a0_8 a0_9)) else (miradorlaw16_PlainBack.j1 kj7 a1 a2 l3 true t198 t199 t202 true a0_0 a0_1 a0_2 a0_3 a0_4 a0_5 a0_6 a0_7 a0_8 a0_9)) = some r := H
            have A22 := Aside0.mk A220
            clear A220
            have HC23 := Aside0.mk H
            clear H
            have hcz24_0 : wc.cell? ⟨gb195, 0, none⟩ = some (.int .i64 a0_0) := (blk_cell BK195.out 0).trans rfl
            have hcz24_1 : wc.cell? ⟨gb195, 1, none⟩ = some (.int .i64 a0_1) := (blk_cell BK195.out 1).trans rfl
            have hcz24_2 : wc.cell? ⟨gb195, 2, none⟩ = some (.bool a0_2) := (blk_cell BK195.out 2).trans rfl
            have hcz24_3 : wc.cell? ⟨gb195, 3, none⟩ = some (.bool a0_3) := (blk_cell BK195.out 3).trans rfl
            have hcz24_4 : wc.cell? ⟨gb195, 4, none⟩ = some (.int .i64 a0_4) := (blk_cell BK195.out 4).trans rfl
            have hcz24_5 : wc.cell? ⟨gb195, 5, none⟩ = some (.int .i64 a0_5) := (blk_cell BK195.out 5).trans rfl
            have hcz24_6 : wc.cell? ⟨gb195, 6, none⟩ = some (.int .i64 a0_6) := (blk_cell BK195.out 6).trans rfl
            have hcz24_7 : wc.cell? ⟨gb195, 7, none⟩ = some (.int .i64 a0_7) := (blk_cell BK195.out 7).trans rfl
            have hcz24_8 : wc.cell? ⟨gb195, 8, none⟩ = some (.int .i64 a0_8) := (blk_cell BK195.out 8).trans rfl
            have hcz24_9 : wc.cell? ⟨gb195, 9, none⟩ = some (.int .i64 a0_9) := (blk_cell BK195.out 9).trans rfl
            have hfz24_0 := blk_frozen BK195.out 0
            have hfz24_1 := blk_frozen BK195.out 1
            have hfz24_2 := blk_frozen BK195.out 2
            have hfz24_3 := blk_frozen BK195.out 3
            have hfz24_4 := blk_frozen BK195.out 4
            have hfz24_5 := blk_frozen BK195.out 5
            have hfz24_6 := blk_frozen BK195.out 6
            have hfz24_7 := blk_frozen BK195.out 7
            have hfz24_8 := blk_frozen BK195.out 8
            have hfz24_9 := blk_frozen BK195.out 9
            go_upto_region 8 with (first | ((with_reducible refine gate_callee (f := 9) rfl ?_); refine goesL_ (some 49) rfl rfl Try.func9 (by kernel_rfl) rfl #[.agg #[.int .i64 a0_0, .int .i64 a0_1, .bool a0_2, .bool a0_3, .int .i64 a0_4, .int .i64 a0_5, .int .i64 a0_6, .int .i64 a0_7, .int .i64 a0_8, .int .i64 a0_9], .slice A3 l3.length c3] rfl (by (try simp only [List.map_toArray, List.map_cons, List.map_nil]); first | done | rfl | (simp only [List.length_drop, List.length_take]; rfl)) ?_; (with_reducible refine (plain_Raw.calls kj7 a0_0 a0_1 a0_2 a0_3 a0_4 a0_5 a0_6 a0_7 a0_8 a0_9 _ _ l3 t198 _ ?side1 ?side2 A20.out).mono ?_); (case side1 => repeat (first | exact (Kd.C_below HR3.out HB.out) | (with_reducible refine Kd.C_alloc ?_ _) | (with_reducible refine Kd.C_drewN ?_ _) | (with_reducible refine Kd.C_drew ?_))); (case side2 => exact HC3.out); rintro e w25 ⟨rfl, hb⟩; refine ⟨_, rfl, ?_⟩; have n0_ := Aside0.mk (blk_below (g := gb195) (o := .cells #[.int .i64 a0_0, .int .i64 a0_1, .bool a0_2, .bool a0_3, .int .i64 a0_4, .int .i64 a0_5, .int .i64 a0_6, .int .i64 a0_7, .int .i64 a0_8, .int .i64 a0_9] 23 (0, 0)) (by (with_reducible repeat (first | refine blk_drewN ?_ _ | refine blk_drew ?_ | refine blk_alloc ?_ _)); exact BK195.out) hb); have n1_ := Aside0.mk (below_step (by repeat (first | (with_reducible first | exact HB.out | apply below_alloc | apply pw_below_drewN | apply below_drew1 | refine below_set ?_ GE195.out) | exact HB.out)) hb); clear BK195; clear HB; have BK195 := n0_; have HB := n1_; clear n0_ n1_; (try clear hb); (try clear hb2); (try clear hk); (try clear hi); have hcz26_0 : w25.cell? ⟨gb195, 0, none⟩ = some (.int .i64 a0_0) := (blk_cell BK195.out 0).trans rfl; have hcz26_1 : w25.cell? ⟨gb195, 1, none⟩ = some (.int .i64 a0_1) := (blk_cell BK195.out 1).trans rfl; have hcz26_2 : w25.cell? ⟨gb195, 2, none⟩ = some (.bool a0_2) := (blk_cell BK195.out 2).trans rfl; have hcz26_3 : w25.cell? ⟨gb195, 3, none⟩ = some (.bool a0_3) := (blk_cell BK195.out 3).trans rfl; have hcz26_4 : w25.cell? ⟨gb195, 4, none⟩ = some (.int .i64 a0_4) := (blk_cell BK195.out 4).trans rfl; have hcz26_5 : w25.cell? ⟨gb195, 5, none⟩ = some (.int .i64 a0_5) := (blk_cell BK195.out 5).trans rfl; have hcz26_6 : w25.cell? ⟨gb195, 6, none⟩ = some (.int .i64 a0_6) := (blk_cell BK195.out 6).trans rfl; have hcz26_7 : w25.cell? ⟨gb195, 7, none⟩ = some (.int .i64 a0_7) := (blk_cell BK195.out 7).trans rfl; have hcz26_8 : w25.cell? ⟨gb195, 8, none⟩ = some (.int .i64 a0_8) := (blk_cell BK195.out 8).trans rfl; have hcz26_9 : w25.cell? ⟨gb195, 9, none⟩ = some (.int .i64 a0_9) := (blk_cell BK195.out 9).trans rfl; have hfz26_0 := blk_frozen BK195.out 0; have hfz26_1 := blk_frozen BK195.out 1; have hfz26_2 := blk_frozen BK195.out 2; have hfz26_3 := blk_frozen BK195.out 3; have hfz26_4 := blk_frozen BK195.out 4; have hfz26_5 := blk_frozen BK195.out 5; have hfz26_6 := blk_frozen BK195.out 6; have hfz26_7 := blk_frozen BK195.out 7; have hfz26_8 := blk_frozen BK195.out 8; have hfz26_9 := blk_frozen BK195.out 9) | ((with_reducible refine gate_callee (f := 10) rfl ?_); refine goesL_ (some 57) rfl rfl Try.func10 (by kernel_rfl) rfl #[.agg #[.int .i64 a0_0, .int .i64 a0_1, .bool a0_2, .bool a0_3, .int .i64 a0_4, .int .i64 a0_5, .int .i64 a0_6, .int .i64 a0_7, .int .i64 a0_8, .int .i64 a0_9], .int .i64 a1, .int .i64 a2, .string (t198 ++ a4)] rfl (by (try simp only [List.map_toArray, List.map_cons, List.map_nil]); first | done | rfl | (simp only [List.length_drop, List.length_take]; rfl)) ?_; (with_reducible refine (plain_RawOf.calls kj7 a0_0 a0_1 a0_2 a0_3 a0_4 a0_5 a0_6 a0_7 a0_8 a0_9 a1 a2 (t198 ++ a4) t199 t202 t203 _ A22.out).mono ?_); rintro e w27 ⟨v200, rfl, ho0, hb⟩; refine ⟨_, rfl, ?_⟩; have n0_ := Aside0.mk (Kd.R_lower ho0 (below_size (by repeat (first | (with_reducible first | exact HB.out | apply below_alloc | apply pw_below_drewN | apply below_drew1 | refine below_set ?_ GE195.out) | exact HB.out)))); have n1_ := Aside0.mk (blk_below (g := gb195) (o := .cells #[.int .i64 a0_0, .int .i64 a0_1, .bool a0_2, .bool a0_3, .int .i64 a0_4, .int .i64 a0_5, .int .i64 a0_6, .int .i64 a0_7, .int .i64 a0_8, .int .i64 a0_9] 23 (0, 0)) (by (with_reducible repeat (first | refine blk_drewN ?_ _ | refine blk_drew ?_ | refine blk_alloc ?_ _)); exact BK195.out) hb); have n2_ := Aside0.mk (below_step (by repeat (first | (with_reducible first | exact HB.out | apply below_alloc | apply pw_below_drewN | apply below_drew1 | refine below_set ?_ GE195.out) | exact HB.out)) hb); clear BK195; clear HB; have HO201 := n0_; have BK195 := n1_; have HB := n2_; clear n0_ n1_ n2_; (try clear hb); (try clear hb2); (try clear hk); (try clear hi); (try clear ho0)))
            (try simp only [Act.put, List.setIfInBounds_toArray, List.set_cons_zero, List.set_cons_succ])
            go_cut [85] (fun v85 wc => ∃ (kq : Nat) (x85_22 : Bool), v85 = .bool x85_22 ∧ Aside0 (miradorlaw16_PlainBack.j1 kq a1 a2 l3 true t198 t199 t202 x85_22 a0_0 a0_1 a0_2 a0_3 a0_4 a0_5 a0_6 a0_7 a0_8 a0_9 = some r) ∧ Aside0 (kq ≤ kj7) ∧ Aside0 (Kd.R (Kd.int .i64) 3 wc w.heap.size (fun _ => True) v200 t199) ∧ Aside0 (wc.heap[gb195]? = some (.cells #[.int .i64 a0_0, .int .i64 a0_1, .bool a0_2, .bool a0_3, .int .i64 a0_4, .int .i64 a0_5, .int .i64 a0_6, .int .i64 a0_7, .int .i64 a0_8, .int .i64 a0_9] 23 (0, 0))) ∧ Aside0 (Below w.heap.size w wc))
            case first =>
              have H := HC23.out
              clear HC23
              by_cases c28 : (t199.length : Int) = (l3.length : Int)
              · rw [if_pos c28] at H
                have c28b0 : ((t199.length : Int) == (l3.length : Int)) = true := beq_iff_eq.mpr c28
                have c28b1 : ((t199.length : Int) != (l3.length : Int)) = false := bne_eq_false_iff_eq.mpr c28
                have c28b2 : (t199.length == l3.length) = true := by first | simpa using c28 | (simp at c28 ⊢; omega)
                clear c28
                (first | rw [c28b0] | (simp only [i64_w, i32_w]; rw [c28b0]) | skip)
                by_cases c29 : t202 = (t198.size : Int)
                · rw [if_pos c29] at H
                  have c29b0 : (t202 == (t198.size : Int)) = true := beq_iff_eq.mpr c29
                  have c29b1 : (t202 != (t198.size : Int)) = false := bne_eq_false_iff_eq.mpr c29
                  clear c29
                  by_cases c30 : t203 = 0
                  · rw [if_pos c30] at H
                    have c30b0 : (t203 == 0) = true := beq_iff_eq.mpr c30
                    have c30b1 : (t203 != 0) = false := bne_eq_false_iff_eq.mpr c30
                    clear c30
                    replace H := Option.bind_eq_some_iff.mp H
                    obtain ⟨t204, A310, H⟩ := H
                    replace H : (miradorlaw16_PlainBack.j1 kj7 a1 a2 l3 true t198 t199 t202 (t202 != (wrap64 ((wrap64 (a1 * a2)) * t204))) a0_0 a0_1 a0_2 a0_3 a0_4 a0_5 a0_6 a0_7 a0_8 a0_9) = some r := H
                    have A31 := Aside0.mk A310
                    clear A310
                    have H' := Aside0.mk H
                    clear H
                    obtain ⟨Ao32, co32, eo32⟩ := Kd.R_slice HO201.out
                    subst eo32
                    have hcz33_0 : w27.cell? ⟨gb195, 0, none⟩ = some (.int .i64 a0_0) := (blk_cell BK195.out 0).trans rfl
                    have hcz33_1 : w27.cell? ⟨gb195, 1, none⟩ = some (.int .i64 a0_1) := (blk_cell BK195.out 1).trans rfl
                    have hcz33_2 : w27.cell? ⟨gb195, 2, none⟩ = some (.bool a0_2) := (blk_cell BK195.out 2).trans rfl
                    have hcz33_3 : w27.cell? ⟨gb195, 3, none⟩ = some (.bool a0_3) := (blk_cell BK195.out 3).trans rfl
                    have hcz33_4 : w27.cell? ⟨gb195, 4, none⟩ = some (.int .i64 a0_4) := (blk_cell BK195.out 4).trans rfl
                    have hcz33_5 : w27.cell? ⟨gb195, 5, none⟩ = some (.int .i64 a0_5) := (blk_cell BK195.out 5).trans rfl
                    have hcz33_6 : w27.cell? ⟨gb195, 6, none⟩ = some (.int .i64 a0_6) := (blk_cell BK195.out 6).trans rfl
                    have hcz33_7 : w27.cell? ⟨gb195, 7, none⟩ = some (.int .i64 a0_7) := (blk_cell BK195.out 7).trans rfl
                    have hcz33_8 : w27.cell? ⟨gb195, 8, none⟩ = some (.int .i64 a0_8) := (blk_cell BK195.out 8).trans rfl
                    have hcz33_9 : w27.cell? ⟨gb195, 9, none⟩ = some (.int .i64 a0_9) := (blk_cell BK195.out 9).trans rfl
                    have hfz33_0 := blk_frozen BK195.out 0
                    have hfz33_1 := blk_frozen BK195.out 1
                    have hfz33_2 := blk_frozen BK195.out 2
                    have hfz33_3 := blk_frozen BK195.out 3
                    have hfz33_4 := blk_frozen BK195.out 4
                    have hfz33_5 := blk_frozen BK195.out 5
                    have hfz33_6 := blk_frozen BK195.out 6
                    have hfz33_7 := blk_frozen BK195.out 7
                    have hfz33_8 := blk_frozen BK195.out 8
                    have hfz33_9 := blk_frozen BK195.out 9
                    go_wp2_with (first | (go_at_call 11; (with_reducible refine (format_Size.calls a0_0 a0_1 a0_2 a0_3 a0_4 a0_5 a0_6 a0_7 a0_8 a0_9 t204 _ A31.out).mono ?_); rintro e w34 ⟨rfl, hb⟩; have n0_ := Aside0.mk (Kd.R_below (by (with_reducible repeat (first | apply Kd.R_alloc | apply Kd.R_drewN | apply Kd.R_drew)); exact HO201.out) hb); have n1_ := Aside0.mk (blk_below (g := gb195) (o := .cells #[.int .i64 a0_0, .int .i64 a0_1, .bool a0_2, .bool a0_3, .int .i64 a0_4, .int .i64 a0_5, .int .i64 a0_6, .int .i64 a0_7, .int .i64 a0_8, .int .i64 a0_9] 23 (0, 0)) (by (with_reducible repeat (first | refine blk_drewN ?_ _ | refine blk_drew ?_ | refine blk_alloc ?_ _)); exact BK195.out) hb); have n2_ := Aside0.mk (below_step (by repeat (first | (with_reducible first | exact HB.out | apply below_alloc | apply pw_below_drewN | apply below_drew1 | refine below_set ?_ GE195.out) | exact HB.out)) hb); clear HO201; clear BK195; clear HB; have HO201 := n0_; have BK195 := n1_; have HB := n2_; clear n0_ n1_ n2_; (try clear hb); (try clear hb2); (try clear hk); (try clear hi)))
                    go_meet
                    case rel => exact ⟨_, ((t202 != (wrap64 ((wrap64 (a1 * a2)) * t204)))), (by first | rfl | (simp; done) | (simp [*]; done)), H', ⟨by have := HJ7.out; first | omega | exact Nat.le_refl _⟩, ⟨by (with_reducible repeat (first | apply Kd.R_alloc | apply Kd.R_drewN | apply Kd.R_drew)); exact HO201.out⟩, ⟨by (with_reducible repeat (first | refine blk_drewN ?_ _ | refine blk_drew ?_ | refine blk_alloc ?_ _)); exact BK195.out⟩, ⟨by repeat (first | (with_reducible first | exact HB.out | apply below_alloc | apply pw_below_drewN | apply below_drew1 | refine below_set ?_ GE195.out) | exact HB.out)⟩⟩
                  · rw [if_neg c30] at H
                    have c30b0 : (t203 == 0) = false := beq_eq_false_iff_ne.mpr c30
                    have c30b1 : (t203 != 0) = true := bne_iff_ne.mpr c30
                    have H' := Aside0.mk H
                    clear H
                    obtain ⟨Ao35, co35, eo35⟩ := Kd.R_slice HO201.out
                    subst eo35
                    go_wp2
                    go_meet
                    case rel => exact ⟨_, (true), (by first | rfl | (simp; done) | (simp [*]; done)), H', ⟨by have := HJ7.out; first | omega | exact Nat.le_refl _⟩, ⟨by (with_reducible repeat (first | apply Kd.R_alloc | apply Kd.R_drewN | apply Kd.R_drew)); exact HO201.out⟩, ⟨by (with_reducible repeat (first | refine blk_drewN ?_ _ | refine blk_drew ?_ | refine blk_alloc ?_ _)); exact BK195.out⟩, ⟨by repeat (first | (with_reducible first | exact HB.out | apply below_alloc | apply pw_below_drewN | apply below_drew1 | refine below_set ?_ GE195.out) | exact HB.out)⟩⟩
                · rw [if_neg c29] at H
                  have c29b0 : (t202 == (t198.size : Int)) = false := beq_eq_false_iff_ne.mpr c29
                  have c29b1 : (t202 != (t198.size : Int)) = true := bne_iff_ne.mpr c29
                  have H' := Aside0.mk H
                  clear H
                  obtain ⟨Ao36, co36, eo36⟩ := Kd.R_slice HO201.out
                  subst eo36
                  go_wp2
                  go_meet
                  case rel => exact ⟨_, (true), (by first | rfl | (simp; done) | (simp [*]; done)), H', ⟨by have := HJ7.out; first | omega | exact Nat.le_refl _⟩, ⟨by (with_reducible repeat (first | apply Kd.R_alloc | apply Kd.R_drewN | apply Kd.R_drew)); exact HO201.out⟩, ⟨by (with_reducible repeat (first | refine blk_drewN ?_ _ | refine blk_drew ?_ | refine blk_alloc ?_ _)); exact BK195.out⟩, ⟨by repeat (first | (with_reducible first | exact HB.out | apply below_alloc | apply pw_below_drewN | apply below_drew1 | refine below_set ?_ GE195.out) | exact HB.out)⟩⟩
              · rw [if_neg c28] at H
                have c28b0 : ((t199.length : Int) == (l3.length : Int)) = false := beq_eq_false_iff_ne.mpr c28
                have c28b1 : ((t199.length : Int) != (l3.length : Int)) = true := bne_iff_ne.mpr c28
                have c28b2 : (t199.length == l3.length) = false := by first | simpa using c28 | (simp at c28 ⊢; omega)
                (first | rw [c28b0] | (simp only [i64_w, i32_w]; rw [c28b0]) | skip)
                have H' := Aside0.mk H
                clear H
                obtain ⟨Ao37, co37, eo37⟩ := Kd.R_slice HO201.out
                subst eo37
                go_wp2
                go_meet
                case rel => exact ⟨_, (true), (by first | rfl | (simp; done) | (simp [*]; done)), H', ⟨by have := HJ7.out; first | omega | exact Nat.le_refl _⟩, ⟨by (with_reducible repeat (first | apply Kd.R_alloc | apply Kd.R_drewN | apply Kd.R_drew)); exact HO201.out⟩, ⟨by (with_reducible repeat (first | refine blk_drewN ?_ _ | refine blk_drew ?_ | refine blk_alloc ?_ _)); exact BK195.out⟩, ⟨by repeat (first | (with_reducible first | exact HB.out | apply below_alloc | apply pw_below_drewN | apply below_drew1 | refine below_set ?_ GE195.out) | exact HB.out)⟩⟩
            case rest =>
              clear HC23
              try clear c1
              try clear c2
              try clear p2
              try clear c3
              try clear p6
              try clear c7
              try clear c9
              try clear c10
              try clear c11
              try clear c11b0
              try clear c11b1
              try clear c12
              try clear c12b0
              try clear c12b1
              try clear c14
              try clear c19
              try clear c21
              try clear c21b0
              try clear c21b1
              try clear c21b2
              try clear c28
              try clear c28b0
              try clear c28b1
              try clear c28b2
              try clear c29
              try clear c29b0
              try clear c29b1
              try clear c30
              try clear c30b0
              try clear c30b1
              try clear hcz15_0
              try clear hcz15_1
              try clear hcz15_2
              try clear hcz15_3
              try clear hcz15_4
              try clear hcz15_5
              try clear hcz15_6
              try clear hcz15_7
              try clear hcz15_8
              try clear hcz15_9
              try clear hcz17_0
              try clear hcz17_1
              try clear hcz17_2
              try clear hcz17_3
              try clear hcz17_4
              try clear hcz17_5
              try clear hcz17_6
              try clear hcz17_7
              try clear hcz17_8
              try clear hcz17_9
              try clear hcz24_0
              try clear hcz24_1
              try clear hcz24_2
              try clear hcz24_3
              try clear hcz24_4
              try clear hcz24_5
              try clear hcz24_6
              try clear hcz24_7
              try clear hcz24_8
              try clear hcz24_9
              try clear hcz26_0
              try clear hcz26_1
              try clear hcz26_2
              try clear hcz26_3
              try clear hcz26_4
              try clear hcz26_5
              try clear hcz26_6
              try clear hcz26_7
              try clear hcz26_8
              try clear hcz26_9
              try clear hcz33_0
              try clear hcz33_1
              try clear hcz33_2
              try clear hcz33_3
              try clear hcz33_4
              try clear hcz33_5
              try clear hcz33_6
              try clear hcz33_7
              try clear hcz33_8
              try clear hcz33_9
              try clear hfz15_0
              try clear hfz15_1
              try clear hfz15_2
              try clear hfz15_3
              try clear hfz15_4
              try clear hfz15_5
              try clear hfz15_6
              try clear hfz15_7
              try clear hfz15_8
              try clear hfz15_9
              try clear hfz17_0
              try clear hfz17_1
              try clear hfz17_2
              try clear hfz17_3
              try clear hfz17_4
              try clear hfz17_5
              try clear hfz17_6
              try clear hfz17_7
              try clear hfz17_8
              try clear hfz17_9
              try clear hfz24_0
              try clear hfz24_1
              try clear hfz24_2
              try clear hfz24_3
              try clear hfz24_4
              try clear hfz24_5
              try clear hfz24_6
              try clear hfz24_7
              try clear hfz24_8
              try clear hfz24_9
              try clear hfz26_0
              try clear hfz26_1
              try clear hfz26_2
              try clear hfz26_3
              try clear hfz26_4
              try clear hfz26_5
              try clear hfz26_6
              try clear hfz26_7
              try clear hfz26_8
              try clear hfz26_9
              try clear hfz33_0
              try clear hfz33_1
              try clear hfz33_2
              try clear hfz33_3
              try clear hfz33_4
              try clear hfz33_5
              try clear hfz33_6
              try clear hfz33_7
              try clear hfz33_8
              try clear hfz33_9
              try clear p2
              try clear p6
              obtain ⟨kq, x85_22, rfl, HA, HJ22, HO_13, BK195, HB⟩ := hcut
              cases kq with
              | zero => exact absurd HA.out (by simp [miradorlaw16_PlainBack.j1])
              | succ kj22 =>
                have H := HA.out
                clear HA
                simp only [miradorlaw16_PlainBack.j1] at H
                by_cases c38 : x85_22 = true
                · subst c38
                  have H1 : (some false) = some r := by rw [if_pos rfl] at H; exact H
                  clear H
                  have H := H1
                  clear H1
                  rw [HRT.out] at H
                  exact absurd (Option.some.inj H) (by decide)
                · replace c38 := Bool.eq_false_iff.mpr c38
                  subst c38
                  have H1 : (miradorlaw16_PlainBack.l0 kj22 a1 a2 l3 true t198 t199 t202 0 a0_0 a0_1 a0_2 a0_3 a0_4 a0_5 a0_6 a0_7 a0_8 a0_9) = some r := by rw [if_neg (show ¬ (false = true) by decide)] at H; exact H
                  clear H
                  have H := H1
                  clear H1
                  have H' := Aside0.mk H
                  clear H
                  go_wp2
                  go_loopg [16] kj22 (fun kq v16 w' => ∃ (x16_3 : Int), v16 = .int .i64 x16_3 ∧ Aside0 (miradorlaw16_PlainBack.l0 kq a1 a2 l3 true t198 t199 t202 x16_3 a0_0 a0_1 a0_2 a0_3 a0_4 a0_5 a0_6 a0_7 a0_8 a0_9 = some r) ∧ Aside0 (kq ≤ kj22) ∧ Aside0 (Kd.R (Kd.int .i64) 3 w' w.heap.size (fun _ => True) v200 t199) ∧ Aside0 (w'.heap[gb195]? = some (.cells #[.int .i64 a0_0, .int .i64 a0_1, .bool a0_2, .bool a0_3, .int .i64 a0_4, .int .i64 a0_5, .int .i64 a0_6, .int .i64 a0_7, .int .i64 a0_8, .int .i64 a0_9] 23 (0, 0))) ∧ Aside0 (Below w.heap.size w w'))
                  case atStart => exact ⟨(0), (by first | rfl | (simp; done) | (simp [*]; done)), H', ⟨Nat.le_refl _⟩, ⟨by (with_reducible repeat (first | apply Kd.R_alloc | apply Kd.R_drewN | apply Kd.R_drew)); exact HO_13.out⟩, ⟨by (with_reducible repeat (first | refine blk_drewN ?_ _ | refine blk_drew ?_ | refine blk_alloc ?_ _)); exact BK195.out⟩, ⟨by repeat (first | (with_reducible first | exact HB.out | apply below_alloc | apply pw_below_drewN | apply below_drew1 | refine below_set ?_ GE195.out) | exact HB.out)⟩⟩
                  case round =>
                    clear H'
                    try clear c1
                    try clear c2
                    try clear p2
                    try clear c3
                    try clear p6
                    try clear c7
                    try clear c9
                    try clear c10
                    try clear c11
                    try clear c11b0
                    try clear c11b1
                    try clear c12
                    try clear c12b0
                    try clear c12b1
                    try clear c14
                    try clear c19
                    try clear c21
                    try clear c21b0
                    try clear c21b1
                    try clear c21b2
                    try clear c28
                    try clear c28b0
                    try clear c28b1
                    try clear c28b2
                    try clear c29
                    try clear c29b0
                    try clear c29b1
                    try clear c30
                    try clear c30b0
                    try clear c30b1
                    try clear c38
                    try clear hcz15_0
                    try clear hcz15_1
                    try clear hcz15_2
                    try clear hcz15_3
                    try clear hcz15_4
                    try clear hcz15_5
                    try clear hcz15_6
                    try clear hcz15_7
                    try clear hcz15_8
                    try clear hcz15_9
                    try clear hcz17_0
                    try clear hcz17_1
                    try clear hcz17_2
                    try clear hcz17_3
                    try clear hcz17_4
                    try clear hcz17_5
                    try clear hcz17_6
                    try clear hcz17_7
                    try clear hcz17_8
                    try clear hcz17_9
                    try clear hcz24_0
                    try clear hcz24_1
                    try clear hcz24_2
                    try clear hcz24_3
                    try clear hcz24_4
                    try clear hcz24_5
                    try clear hcz24_6
                    try clear hcz24_7
                    try clear hcz24_8
                    try clear hcz24_9
                    try clear hcz26_0
                    try clear hcz26_1
                    try clear hcz26_2
                    try clear hcz26_3
                    try clear hcz26_4
                    try clear hcz26_5
                    try clear hcz26_6
                    try clear hcz26_7
                    try clear hcz26_8
                    try clear hcz26_9
                    try clear hcz33_0
                    try clear hcz33_1
                    try clear hcz33_2
                    try clear hcz33_3
                    try clear hcz33_4
                    try clear hcz33_5
                    try clear hcz33_6
                    try clear hcz33_7
                    try clear hcz33_8
                    try clear hcz33_9
                    try clear hfz15_0
                    try clear hfz15_1
                    try clear hfz15_2
                    try clear hfz15_3
                    try clear hfz15_4
                    try clear hfz15_5
                    try clear hfz15_6
                    try clear hfz15_7
                    try clear hfz15_8
                    try clear hfz15_9
                    try clear hfz17_0
                    try clear hfz17_1
                    try clear hfz17_2
                    try clear hfz17_3
                    try clear hfz17_4
                    try clear hfz17_5
                    try clear hfz17_6
                    try clear hfz17_7
                    try clear hfz17_8
                    try clear hfz17_9
                    try clear hfz24_0
                    try clear hfz24_1
                    try clear hfz24_2
                    try clear hfz24_3
                    try clear hfz24_4
                    try clear hfz24_5
                    try clear hfz24_6
                    try clear hfz24_7
                    try clear hfz24_8
                    try clear hfz24_9
                    try clear hfz26_0
                    try clear hfz26_1
                    try clear hfz26_2
                    try clear hfz26_3
                    try clear hfz26_4
                    try clear hfz26_5
                    try clear hfz26_6
                    try clear hfz26_7
                    try clear hfz26_8
                    try clear hfz26_9
                    try clear hfz33_0
                    try clear hfz33_1
                    try clear hfz33_2
                    try clear hfz33_3
                    try clear hfz33_4
                    try clear hfz33_5
                    try clear hfz33_6
                    try clear hfz33_7
                    try clear hfz33_8
                    try clear hfz33_9
                    try clear p2
                    try clear p6
                    obtain ⟨x16_3, rfl, HA, HK3, HO_13, BK195, HB⟩ := hrel
                    cases gk with
                    | zero => exact absurd HA.out (by simp [miradorlaw16_PlainBack.l0])
                    | succ k3 =>
                      have H := HA.out
                      clear HA
                      simp only [miradorlaw16_PlainBack.l0] at H
                      by_cases c39 : x16_3 < (l3.length : Int)
                      · rw [if_pos c39] at H
                        have c39b0 : decide (x16_3 < (l3.length : Int)) = true := decide_eq_true c39
                        clear c39
                        by_cases c40 : 0 ≤ x16_3
                        · rw [if_pos c40] at H
                          have c40b0 : decide (0 ≤ x16_3) = true := decide_eq_true c40
                          clear c40
                          by_cases c41 : x16_3 < (t199.length : Int)
                          · rw [if_pos c41] at H
                            have c41b0 : decide (x16_3 < (t199.length : Int)) = true := decide_eq_true c41
                            clear c41
                            replace H := Option.bind_eq_some_iff.mp H
                            obtain ⟨t207, A420, H⟩ := H
                            replace H : (if (rd t199 x16_3) = t207 then (miradorlaw16_PlainBack.l0 k3 a1 a2 l3 true t198 t199 t202 (wrap64 (x16_3 + 1)) a0_0 a0_1 a0_2 a0_3 a0_4 a0_5 a0_6 a0_7 a0_8 a0_9) else (some false)) = some r := H
                            have A42 := Aside0.mk A420
                            clear A420
                            by_cases c43 : (rd t199 x16_3) = t207
                            · rw [if_pos c43] at H
                              have c43b0 : ((rd t199 x16_3) == t207) = true := beq_iff_eq.mpr c43
                              have c43b1 : ((rd t199 x16_3) != t207) = false := bne_eq_false_iff_eq.mpr c43
                              clear c43
                              have H' := Aside0.mk H
                              clear H
                              try go_wp2
                              have n0_ := Aside0.mk (Kd.R_drew HO_13.out)
                              have n1_ := Aside0.mk (blk_drew BK195.out)
                              have n2_ := Aside0.mk (below_drew1 HB.out)
                              clear HO_13
                              clear BK195
                              clear HB
                              have HO_13 := n0_
                              have BK195 := n1_
                              have HB := n2_
                              clear n0_ n1_ n2_
                              obtain ⟨Ao45, co45, eo45⟩ := Kd.R_slice HO_13.out
                              (first | subst eo45 | (injection eo45 with f1_ f2_ f3_; have f4_ := f1_.symm; have f5_ := f3_.symm; clear f1_ f2_ f3_; subst f4_; subst f5_))
                              have p205 : 0 ≤ (x16_3 : Int) := of_decide_eq_true (by first | (with_reducible assumption) | assumption)
                              have q205 : x16_3 < (t199.length : Int) := of_decide_eq_true (by first | (with_reducible assumption) | assumption)
                              obtain ⟨ad205, e205, hx205_0⟩ := Kd.at_int (Kd.R_reads' HO_13.out).2.2 x16_3 p205 q205
                              cases e205
                              replace p205 := eq_true p205
                              replace q205 := eq_true q205
                              have p206 : 0 ≤ (x16_3 : Int) := of_decide_eq_true (by first | (with_reducible assumption) | assumption)
                              have q206 : x16_3 < (l3.length : Int) := of_decide_eq_true (by first | (with_reducible assumption) | assumption)
                              obtain ⟨ad206, e206, hx206_0⟩ := Kd.at_int HR3.out x16_3 p206 q206
                              have hw206_0 := hx206_0
                              cases e206
                              replace hx206_0 := (HB.out.cell (World.block_lt_of_cell? w _ hx206_0)).trans hx206_0
                              replace p206 := eq_true p206
                              replace q206 := eq_true q206
                              refine start_ (n := 11) (S := fun w' => w'.cell? ⟨gb195, 0, none⟩ = some (.int .i64 a0_0) ∧ w'.cell? ⟨gb195, 1, none⟩ = some (.int .i64 a0_1) ∧ w'.cell? ⟨gb195, 2, none⟩ = some (.bool a0_2) ∧ w'.cell? ⟨gb195, 3, none⟩ = some (.bool a0_3) ∧ w'.cell? ⟨gb195, 4, none⟩ = some (.int .i64 a0_4) ∧ w'.cell? ⟨gb195, 5, none⟩ = some (.int .i64 a0_5) ∧ w'.cell? ⟨gb195, 6, none⟩ = some (.int .i64 a0_6) ∧ w'.cell? ⟨gb195, 7, none⟩ = some (.int .i64 a0_7) ∧ w'.cell? ⟨gb195, 8, none⟩ = some (.int .i64 a0_8) ∧ w'.cell? ⟨gb195, 9, none⟩ = some (.int .i64 a0_9) ∧ w'.cell? (ad205.add (x16_3).toNat) = some (.int .i64 (rd t199 x16_3)) ∧ w'.cell? (ad206.add (x16_3).toNat) = some (.int .i64 (rd l3 x16_3))) (ds := []) #[false, false, false, false, false, false, false, false, false, false, false] (by kernel_rfl) rfl rfl ⟨(blk_cell BK195.out 0).trans rfl, (blk_cell BK195.out 1).trans rfl, (blk_cell BK195.out 2).trans rfl, (blk_cell BK195.out 3).trans rfl, (blk_cell BK195.out 4).trans rfl, (blk_cell BK195.out 5).trans rfl, (blk_cell BK195.out 6).trans rfl, (blk_cell BK195.out 7).trans rfl, (blk_cell BK195.out 8).trans rfl, (blk_cell BK195.out 9).trans rfl, hx205_0, ((HB.out.cell (World.block_lt_of_cell? w _ hw206_0)).trans hw206_0)⟩ (fun hHeld => ?_); refine with_tabW miradorlaw16_PlainBack.tab13 miradorlaw16_PlainBack.bits13 (fun HT_ HW_ => ?_)
                              generalize wr.drew = w44 at HO_13 BK195 HB hx205_0 hx206_0 hHeld ⊢
                              refine pure_ (i := 0) (N := some 92) (v := ?_) (a' := ?_) #[true, false, false, false, false, false, false, false, false, false, false] rfl rfl (any_of HT_.out (by kernel_rfl)) (fun _ _ _ h => h) (Or.inl ⟨by rfl, ?_⟩) ?_ ?_
                              rotate_left
                              · intro w'
                                go_simp
                                with_reducible rfl
                              rotate_left
                              · simp only [Act.put, List.setIfInBounds_toArray, List.set_cons_zero, List.set_cons_succ, i64_w, i32_w]
                                rfl
                              refine pure_ (i := 1) (N := some 93) (v := ?_) (a' := ?_) #[true, true, false, false, false, false, false, false, false, false, false] rfl rfl (any_of HT_.out (by kernel_rfl)) (fun _ _ _ h => h) (Or.inl ⟨by rfl, ?_⟩) ?_ ?_
                              rotate_left
                              · intro w'
                                go_simp
                                with_reducible rfl
                              rotate_left
                              · simp only [Act.put, List.setIfInBounds_toArray, List.set_cons_zero, List.set_cons_succ, i64_w, i32_w]
                                rfl
                              refine pure_ (i := 2) (N := some 94) (v := ?_) (a' := ?_) #[true, true, true, false, false, false, false, false, false, false, false] rfl rfl (any_of HT_.out (by kernel_rfl)) (fun _ _ _ h => h) (Or.inl ⟨by rfl, ?_⟩) ?_ ?_
                              rotate_left
                              · intro w'
                                go_simp
                                with_reducible rfl
                              rotate_left
                              · simp only [Act.put, List.setIfInBounds_toArray, List.set_cons_zero, List.set_cons_succ, i64_w, i32_w]
                                rfl
                              refine pure_ (i := 5) (N := some 97) (v := ?_) (a' := ?_) #[true, true, true, false, false, true, false, false, false, false, false] rfl rfl (any_of HT_.out (by kernel_rfl)) (fun _ _ _ h => h) (Or.inl ⟨by rfl, ?_⟩) ?_ ?_
                              rotate_left
                              · intro w'
                                go_simp
                                with_reducible rfl
                              rotate_left
                              · simp only [Act.put, List.setIfInBounds_toArray, List.set_cons_zero, List.set_cons_succ, i64_w, i32_w]
                                rfl
                              refine pure_ (i := 6) (N := some 98) (v := ?_) (a' := ?_) #[true, true, true, false, false, true, true, false, false, false, false] rfl rfl (any_of HT_.out (by kernel_rfl)) (fun _ _ _ h => h) (Or.inl ⟨by rfl, ?_⟩) ?_ ?_
                              rotate_left
                              · intro w'
                                go_simp
                                with_reducible rfl
                              rotate_left
                              · simp only [Act.put, List.setIfInBounds_toArray, List.set_cons_zero, List.set_cons_succ, i64_w, i32_w]
                                rfl
                              refine pure_ (i := 7) (N := some 99) (v := ?_) (a' := ?_) #[true, true, true, false, false, true, true, true, false, false, false] rfl rfl (any_of HT_.out (by kernel_rfl)) (fun _ _ _ h => h) (Or.inl ⟨by rfl, ?_⟩) ?_ ?_
                              rotate_left
                              · intro w'
                                go_simp
                                with_reducible rfl
                              rotate_left
                              · simp only [Act.put, List.setIfInBounds_toArray, List.set_cons_zero, List.set_cons_succ, i64_w, i32_w]
                                rfl
                              refine take_ (i := 3) (N := some 95) (v := ?_) (a' := ?_) #[true, true, true, true, false, true, true, true, false, false, false] rfl rfl (take_ofW HT_.out HW_.out (by kernel_rfl)) (fun _ _ _ h => h) (Or.inl ⟨by rfl, ?_⟩) hHeld ?_ ?_
                              rotate_left
                              · rintro w' ⟨s0, s1, s2, s3, s4, s5, s6, s7, s8, s9, s10, s11⟩
                                go_simp
                                with_reducible rfl
                              rotate_left
                              · simp only [Act.put, List.setIfInBounds_toArray, List.set_cons_zero, List.set_cons_succ, i64_w, i32_w]
                                rfl
                              refine take_ (i := 4) (N := some 96) (v := ?_) (a' := ?_) #[true, true, true, true, true, true, true, true, false, false, false] rfl rfl (take_ofW HT_.out HW_.out (by kernel_rfl)) (fun _ _ _ h => h) (Or.inl ⟨by rfl, ?_⟩) hHeld ?_ ?_
                              rotate_left
                              · rintro w' ⟨s0, s1, s2, s3, s4, s5, s6, s7, s8, s9, s10, s11⟩
                                go_simp
                                with_reducible rfl
                              rotate_left
                              · simp only [Act.put, List.setIfInBounds_toArray, List.set_cons_zero, List.set_cons_succ, i64_w, i32_w]
                                rfl
                              refine take_ (i := 8) (N := some 100) (v := ?_) (a' := ?_) #[true, true, true, true, true, true, true, true, true, false, false] rfl rfl (take_ofW HT_.out HW_.out (by kernel_rfl)) (fun _ _ _ h => h) (Or.inl ⟨by rfl, ?_⟩) hHeld ?_ ?_
                              rotate_left
                              · rintro w' ⟨s0, s1, s2, s3, s4, s5, s6, s7, s8, s9, s10, s11⟩
                                go_simp
                                with_reducible rfl
                              rotate_left
                              · simp only [Act.put, List.setIfInBounds_toArray, List.set_cons_zero, List.set_cons_succ, i64_w, i32_w]
                                rfl
                              refine one_ (i := 9) (N := some 101) #[true, true, true, true, true, true, true, true, true, true, false] rfl rfl (one_of HT_.out (by kernel_rfl)) (by decide) (fun K hK => ?_)
                              refine goes_ Try.func12 (by kernel_rfl) rfl #[.agg #[.int .i64 a0_0, .int .i64 a0_1, .bool a0_2, .bool a0_3, .int .i64 a0_4, .int .i64 a0_5, .int .i64 a0_6, .int .i64 a0_7, .int .i64 a0_8, .int .i64 a0_9], .int .i64 (rd l3 x16_3)] (by rfl) rfl rfl (by (try simp only [List.map_toArray, List.map_cons, List.map_nil]); first | done | rfl | (simp only [List.length_drop, List.length_take]; rfl)) ?_
                              with_reducible refine (format_Quant.calls a0_0 a0_1 a0_2 a0_3 a0_4 a0_5 a0_6 a0_7 a0_8 a0_9 (rd l3 x16_3) t207 _ A42.out).mono ?_
                              rintro e w46 ⟨rfl, hb⟩
                              have HS10_ := (hb.cell (World.block_lt_of_cell? _ _ (hHeld.2.2.2.2.2.2.2.2.2.2.1))).trans (hHeld.2.2.2.2.2.2.2.2.2.2.1)
                              refine ⟨_, rfl, ?_⟩
                              have n0_ := Aside0.mk (Kd.R_below (by (with_reducible repeat (first | apply Kd.R_alloc | apply Kd.R_drewN | apply Kd.R_drew)); exact HO_13.out) hb)
                              have n1_ := Aside0.mk (blk_below (g := gb195) (o := .cells #[.int .i64 a0_0, .int .i64 a0_1, .bool a0_2, .bool a0_3, .int .i64 a0_4, .int .i64 a0_5, .int .i64 a0_6, .int .i64 a0_7, .int .i64 a0_8, .int .i64 a0_9] 23 (0, 0)) (by (with_reducible repeat (first | refine blk_drewN ?_ _ | refine blk_drew ?_ | refine blk_alloc ?_ _)); exact BK195.out) hb)
                              have n2_ := Aside0.mk (below_step (by repeat (first | (with_reducible first | exact HB.out | apply below_alloc | apply pw_below_drewN | apply below_drew1 | refine below_set ?_ GE195.out) | exact HB.out)) hb)
                              clear HO_13
                              clear BK195
                              clear HB
                              have HO_13 := n0_
                              have BK195 := n1_
                              have HB := n2_
                              clear n0_ n1_ n2_
                              (try clear hb)
                              (try clear hb2)
                              (try clear hk)
                              (try clear hi)
                              refine hK.out _ _ ⟨(blk_cell BK195.out 0).trans rfl, (blk_cell BK195.out 1).trans rfl, (blk_cell BK195.out 2).trans rfl, (blk_cell BK195.out 3).trans rfl, (blk_cell BK195.out 4).trans rfl, (blk_cell BK195.out 5).trans rfl, (blk_cell BK195.out 6).trans rfl, (blk_cell BK195.out 7).trans rfl, (blk_cell BK195.out 8).trans rfl, (blk_cell BK195.out 9).trans rfl, HS10_, ((HB.out.cell (World.block_lt_of_cell? w _ hw206_0)).trans hw206_0)⟩ (fun hHeld => ?_)
                              clear hK K
                              refine norm_ (a' := ?_) ?_ ?_
                              rotate_left
                              · show Act.put _ (some 101) _ = _
                                simp only [Act.put, List.setIfInBounds_toArray, List.set_cons_zero, List.set_cons_succ, i64_w, i32_w]
                                rfl
                              refine pure_ (i := 10) (N := some 102) (v := ?_) (a' := ?_) #[true, true, true, true, true, true, true, true, true, true, true] rfl rfl (any_of HT_.out (by kernel_rfl)) (fun _ _ _ h => h) (Or.inl ⟨by rfl, ?_⟩) ?_ ?_
                              rotate_left
                              · intro w'
                                go_simp
                                with_reducible rfl
                              rotate_left
                              · simp only [Act.put, List.setIfInBounds_toArray, List.set_cons_zero, List.set_cons_succ, i64_w, i32_w]
                                rfl
                              refine done_ (done_of HT_.out (by kernel_rfl)) ?_
                              try go_wp2
                              go_roundg k3
                              case measure => have := HJ7.out; have := HJ22.out; have := HK3.out; omega
                              case rel => exact ⟨(wrap64 (x16_3 + 1)), (by first | rfl | (simp; done) | (simp [*]; done)), H', ⟨by have := HJ7.out; have := HJ22.out; have := HK3.out; omega⟩, ⟨by (with_reducible repeat (first | apply Kd.R_alloc | apply Kd.R_drewN | apply Kd.R_drew)); exact HO_13.out⟩, ⟨by (with_reducible repeat (first | refine blk_drewN ?_ _ | refine blk_drew ?_ | refine blk_alloc ?_ _)); exact BK195.out⟩, ⟨by repeat (first | (with_reducible first | exact HB.out | apply below_alloc | apply pw_below_drewN | apply below_drew1 | refine below_set ?_ GE195.out) | exact HB.out)⟩⟩
                            · rw [if_neg c43] at H
                              have c43b0 : ((rd t199 x16_3) == t207) = false := beq_eq_false_iff_ne.mpr c43
                              have c43b1 : ((rd t199 x16_3) != t207) = true := bne_iff_ne.mpr c43
                              rw [HRT.out] at H
                              exact absurd (Option.some.inj H) (by decide)
                          · rw [if_neg c41] at H
                            exact absurd H (by simp)
                        · rw [if_neg c40] at H
                          exact absurd H (by simp)
                      · rw [if_neg c39] at H
                        have c39b0 : decide (x16_3 < (l3.length : Int)) = false := decide_eq_false c39
                        clear c39
                        by_cases c47 : t202 = 0
                        · rw [if_pos c47] at H
                          have c47b0 : (t202 == 0) = true := beq_iff_eq.mpr c47
                          have c47b1 : (t202 != 0) = false := bne_eq_false_iff_eq.mpr c47
                          clear c47
                          obtain rfl := Option.some.inj H
                          go_wp2
                          go_ret
                          exact ⟨by first | rfl | (simp [errW_none, errW_some] <;> rfl) | (simp [*, errW_none, errW_some] <;> rfl), by repeat (first | (with_reducible first | exact HB.out | apply below_alloc | apply pw_below_drewN | apply below_drew1 | refine below_set ?_ GE195.out) | exact HB.out)⟩
                        · rw [if_neg c47] at H
                          have c47b0 : (t202 == 0) = false := beq_eq_false_iff_ne.mpr c47
                          have c47b1 : (t202 != 0) = true := bne_iff_ne.mpr c47
                          obtain ⟨ji48, hji48⟩ : ∃ j_ : Int, (wrap64 (t202 - 1)) = j_ := ⟨_, rfl⟩
                          replace H : (if 0 ≤ (ji48) then (if (ji48) ≤ (t198.size : Int) then ((plain_RawOf.f k3 a0_0 a0_1 a0_2 a0_3 a0_4 a0_5 a0_6 a0_7 a0_8 a0_9 a1 a2 (t198.extract 0 ((ji48) : Int).toNat)).bind fun bt208 => (if true = true then (if bt208.2.1 = 0 then (some (bt208.2.2 == 2)) else (some false)) else (some false))) else (none)) else (none)) = some r := by first | (rw [hji48] at H; exact H) | (simp only [hji48] at H ⊢; exact H)
                          have hji48w : (IntKind.i64.wrap (t202 - 1)) = ji48 := (i64_w _).trans hji48
                          by_cases c49 : 0 ≤ (ji48)
                          · rw [if_pos c49] at H
                            have c49b0 := eq_true c49
                            have c49b1 : decide (0 ≤ (ji48)) = true := decide_eq_true c49
                            clear c49
                            by_cases c50 : (ji48) ≤ (t198.size : Int)
                            · rw [if_pos c50] at H
                              have c50b0 := eq_true c50
                              have c50b1 : decide ((ji48) ≤ (t198.size : Int)) = true := decide_eq_true c50
                              clear c50
                              replace H := Option.bind_eq_some_iff.mp H
                              obtain ⟨⟨t208, t211, t212⟩, A510, H⟩ := H
                              replace H : (if true = true then (if t211 = 0 then (some (t212 == 2)) else (some false)) else (some false)) = some r := H
                              have A51 := Aside0.mk A510
                              clear A510
                              have H1 : (if t211 = 0 then (some (t212 == 2)) else (some false)) = some r := by (first | rw [if_pos rfl] at H | rw [if_pos trivial] at H); exact H
                              clear H
                              have H := H1
                              clear H1
                              by_cases c52 : t211 = 0
                              · rw [if_pos c52] at H
                                have c52b0 : (t211 == 0) = true := beq_iff_eq.mpr c52
                                have c52b1 : (t211 != 0) = false := bne_eq_false_iff_eq.mpr c52
                                clear c52
                                obtain rfl := Option.some.inj H
                                try go_wp2
                                have n0_ := Aside0.mk (Kd.R_drew HO_13.out)
                                have n1_ := Aside0.mk (blk_drew BK195.out)
                                have n2_ := Aside0.mk (below_drew1 HB.out)
                                clear HO_13
                                clear BK195
                                clear HB
                                have HO_13 := n0_
                                have BK195 := n1_
                                have HB := n2_
                                clear n0_ n1_ n2_
                                refine start_ (n := 15) (S := fun w' => w'.cell? ⟨gb195, 0, none⟩ = some (.int .i64 a0_0) ∧ w'.cell? ⟨gb195, 1, none⟩ = some (.int .i64 a0_1) ∧ w'.cell? ⟨gb195, 2, none⟩ = some (.bool a0_2) ∧ w'.cell? ⟨gb195, 3, none⟩ = some (.bool a0_3) ∧ w'.cell? ⟨gb195, 4, none⟩ = some (.int .i64 a0_4) ∧ w'.cell? ⟨gb195, 5, none⟩ = some (.int .i64 a0_5) ∧ w'.cell? ⟨gb195, 6, none⟩ = some (.int .i64 a0_6) ∧ w'.cell? ⟨gb195, 7, none⟩ = some (.int .i64 a0_7) ∧ w'.cell? ⟨gb195, 8, none⟩ = some (.int .i64 a0_8) ∧ w'.cell? ⟨gb195, 9, none⟩ = some (.int .i64 a0_9)) (ds := []) #[false, false, false, false, false, false, false, false, false, false, false, false, false, false, false] (by kernel_rfl) rfl rfl ⟨(blk_cell BK195.out 0).trans rfl, (blk_cell BK195.out 1).trans rfl, (blk_cell BK195.out 2).trans rfl, (blk_cell BK195.out 3).trans rfl, (blk_cell BK195.out 4).trans rfl, (blk_cell BK195.out 5).trans rfl, (blk_cell BK195.out 6).trans rfl, (blk_cell BK195.out 7).trans rfl, (blk_cell BK195.out 8).trans rfl, (blk_cell BK195.out 9).trans rfl⟩ (fun hHeld => ?_); refine with_tabW miradorlaw16_PlainBack.tab17 miradorlaw16_PlainBack.bits17 (fun HT_ HW_ => ?_)
                                generalize wr.drew = w53 at HO_13 BK195 HB hHeld ⊢
                                refine pure_ (i := 1) (N := some 108) (v := ?_) (a' := ?_) #[false, true, false, false, false, false, false, false, false, false, false, false, false, false, false] rfl rfl (any_of HT_.out (by kernel_rfl)) (fun _ _ _ h => h) (Or.inl ⟨by rfl, ?_⟩) ?_ ?_
                                rotate_left
                                · intro w'
                                  go_simp
                                  with_reducible rfl
                                rotate_left
                                · simp only [Act.put, List.setIfInBounds_toArray, List.set_cons_zero, List.set_cons_succ, i64_w, i32_w]
                                  rfl
                                refine pure_ (i := 2) (N := some 109) (v := ?_) (a' := ?_) #[false, true, true, false, false, false, false, false, false, false, false, false, false, false, false] rfl rfl (any_of HT_.out (by kernel_rfl)) (fun _ _ _ h => h) (Or.inl ⟨by rfl, ?_⟩) ?_ ?_
                                rotate_left
                                · intro w'
                                  go_simp
                                  with_reducible rfl
                                rotate_left
                                · simp only [Act.put, List.setIfInBounds_toArray, List.set_cons_zero, List.set_cons_succ, i64_w, i32_w]
                                  rfl
                                refine pure_ (i := 3) (N := some 110) (v := ?_) (a' := ?_) #[false, true, true, true, false, false, false, false, false, false, false, false, false, false, false] rfl rfl (any_of HT_.out (by kernel_rfl)) (fun _ _ _ h => h) (Or.inl ⟨by rfl, ?_⟩) ?_ ?_
                                rotate_left
                                · intro w'
                                  go_simp
                                  with_reducible rfl
                                rotate_left
                                · simp only [Act.put, List.setIfInBounds_toArray, List.set_cons_zero, List.set_cons_succ, i64_w, i32_w]
                                  rfl
                                refine pure_ (i := 4) (N := some 111) (v := ?_) (a' := ?_) #[false, true, true, true, true, false, false, false, false, false, false, false, false, false, false] rfl rfl (any_of HT_.out (by kernel_rfl)) (fun _ _ _ h => h) (Or.inl ⟨by rfl, ?_⟩) ?_ ?_
                                rotate_left
                                · intro w'
                                  go_simp
                                  with_reducible rfl
                                rotate_left
                                · simp only [Act.put, List.setIfInBounds_toArray, List.set_cons_zero, List.set_cons_succ, i64_w, i32_w]
                                  rfl
                                refine pure_ (i := 5) (N := some 112) (v := ?_) (a' := ?_) #[false, true, true, true, true, true, false, false, false, false, false, false, false, false, false] rfl rfl (any_of HT_.out (by kernel_rfl)) (fun _ _ _ h => h) (Or.inl ⟨by rfl, ?_⟩) ?_ ?_
                                rotate_left
                                · intro w'
                                  go_simp
                                  with_reducible rfl
                                rotate_left
                                · simp only [Act.put, List.setIfInBounds_toArray, List.set_cons_zero, List.set_cons_succ, i64_w, i32_w]
                                  rfl
                                refine pure_ (i := 6) (N := some 113) (v := ?_) (a' := ?_) #[false, true, true, true, true, true, true, false, false, false, false, false, false, false, false] rfl rfl (any_of HT_.out (by kernel_rfl)) (fun _ _ _ h => h) (Or.inl ⟨by rfl, ?_⟩) ?_ ?_
                                rotate_left
                                · intro w'
                                  go_simp
                                  with_reducible rfl
                                rotate_left
                                · simp only [Act.put, List.setIfInBounds_toArray, List.set_cons_zero, List.set_cons_succ, i64_w, i32_w]
                                  rfl
                                refine take_ (i := 0) (N := some 107) (v := ?_) (a' := ?_) #[true, true, true, true, true, true, true, false, false, false, false, false, false, false, false] rfl rfl (take_ofW HT_.out HW_.out (by kernel_rfl)) (fun _ _ _ h => h) (Or.inl ⟨by rfl, ?_⟩) hHeld ?_ ?_
                                rotate_left
                                · rintro w' ⟨s0, s1, s2, s3, s4, s5, s6, s7, s8, s9⟩
                                  go_simp
                                  with_reducible rfl
                                rotate_left
                                · simp only [Act.put, List.setIfInBounds_toArray, List.set_cons_zero, List.set_cons_succ, i64_w, i32_w]
                                  rfl
                                refine one_ (i := 7) (N := some 114) #[true, true, true, true, true, true, true, true, false, false, false, false, false, false, false] rfl rfl (one_of HT_.out (by kernel_rfl)) (by decide) (fun K hK => ?_)
                                refine goes_ Try.func10 (by kernel_rfl) rfl #[.agg #[.int .i64 a0_0, .int .i64 a0_1, .bool a0_2, .bool a0_3, .int .i64 a0_4, .int .i64 a0_5, .int .i64 a0_6, .int .i64 a0_7, .int .i64 a0_8, .int .i64 a0_9], .int .i64 a1, .int .i64 a2, .string (t198.extract 0 ((ji48) : Int).toNat)] (by rfl) rfl rfl (by (try simp only [List.map_toArray, List.map_cons, List.map_nil]); first | done | (simp only [hji48]; rfl) | rfl | (simp only [List.length_drop, List.length_take]; rfl)) ?_
                                with_reducible refine (plain_RawOf.calls k3 a0_0 a0_1 a0_2 a0_3 a0_4 a0_5 a0_6 a0_7 a0_8 a0_9 a1 a2 (t198.extract 0 ((ji48) : Int).toNat) t208 t211 t212 _ A51.out).mono ?_
                                rintro e w54 ⟨v209, rfl, ho0, hb⟩
                                refine ⟨_, rfl, ?_⟩
                                have n0_ := Aside0.mk (Kd.R_elder' (by (with_reducible repeat (first | apply Kd.R_alloc | apply Kd.R_drewN | apply Kd.R_drew)); exact HO_13.out) (Kd.R_base ho0) hb)
                                have n1_ := Aside0.mk (Kd.R_lower (Kd.R_new' ho0 (Kd.R_lt (by (with_reducible repeat (first | apply Kd.R_alloc | apply Kd.R_drewN | apply Kd.R_drew)); exact HO_13.out))) (below_size (by repeat (first | (with_reducible first | exact HB.out | apply below_alloc | apply pw_below_drewN | apply below_drew1 | refine below_set ?_ GE195.out) | exact HB.out))))
                                have n2_ := Aside0.mk (blk_below (g := gb195) (o := .cells #[.int .i64 a0_0, .int .i64 a0_1, .bool a0_2, .bool a0_3, .int .i64 a0_4, .int .i64 a0_5, .int .i64 a0_6, .int .i64 a0_7, .int .i64 a0_8, .int .i64 a0_9] 23 (0, 0)) (by (with_reducible repeat (first | refine blk_drewN ?_ _ | refine blk_drew ?_ | refine blk_alloc ?_ _)); exact BK195.out) hb)
                                have n3_ := Aside0.mk (below_step (by repeat (first | (with_reducible first | exact HB.out | apply below_alloc | apply pw_below_drewN | apply below_drew1 | refine below_set ?_ GE195.out) | exact HB.out)) hb)
                                clear HO_13
                                clear BK195
                                clear HB
                                have HO_13 := n0_
                                have HO210 := n1_
                                have BK195 := n2_
                                have HB := n3_
                                clear n0_ n1_ n2_ n3_
                                (try clear hb)
                                (try clear hb2)
                                (try clear hk)
                                (try clear hi)
                                (try clear ho0)
                                refine hK.out _ _ ⟨(blk_cell BK195.out 0).trans rfl, (blk_cell BK195.out 1).trans rfl, (blk_cell BK195.out 2).trans rfl, (blk_cell BK195.out 3).trans rfl, (blk_cell BK195.out 4).trans rfl, (blk_cell BK195.out 5).trans rfl, (blk_cell BK195.out 6).trans rfl, (blk_cell BK195.out 7).trans rfl, (blk_cell BK195.out 8).trans rfl, (blk_cell BK195.out 9).trans rfl⟩ (fun hHeld => ?_)
                                clear hK K
                                refine norm_ (a' := ?_) ?_ ?_
                                rotate_left
                                · show Act.put _ (some 114) _ = _
                                  simp only [Act.put, List.setIfInBounds_toArray, List.set_cons_zero, List.set_cons_succ, i64_w, i32_w]
                                  rfl
                                refine pure_ (i := 8) (N := some 106) (v := ?_) (a' := ?_) #[true, true, true, true, true, true, true, true, true, false, false, false, false, false, false] rfl rfl (any_of HT_.out (by kernel_rfl)) (fun _ _ _ h => h) (Or.inl ⟨by rfl, ?_⟩) ?_ ?_
                                rotate_left
                                · intro w'
                                  go_simp
                                  with_reducible rfl
                                rotate_left
                                · simp only [Act.put, List.setIfInBounds_toArray, List.set_cons_zero, List.set_cons_succ, i64_w, i32_w]
                                  rfl
                                refine pure_ (i := 9) (N := some 115) (v := ?_) (a' := ?_) #[true, true, true, true, true, true, true, true, true, true, false, false, false, false, false] rfl rfl (any_of HT_.out (by kernel_rfl)) (fun _ _ _ h => h) (Or.inl ⟨by rfl, ?_⟩) ?_ ?_
                                rotate_left
                                · intro w'
                                  go_simp
                                  with_reducible rfl
                                rotate_left
                                · simp only [Act.put, List.setIfInBounds_toArray, List.set_cons_zero, List.set_cons_succ, i64_w, i32_w]
                                  rfl
                                refine pure_ (i := 10) (N := some 116) (v := ?_) (a' := ?_) #[true, true, true, true, true, true, true, true, true, true, true, false, false, false, false] rfl rfl (any_of HT_.out (by kernel_rfl)) (fun _ _ _ h => h) (Or.inl ⟨by rfl, ?_⟩) ?_ ?_
                                rotate_left
                                · intro w'
                                  go_simp
                                  with_reducible rfl
                                rotate_left
                                · simp only [Act.put, List.setIfInBounds_toArray, List.set_cons_zero, List.set_cons_succ, i64_w, i32_w]
                                  rfl
                                refine pure_ (i := 11) (N := some 117) (v := ?_) (a' := ?_) #[true, true, true, true, true, true, true, true, true, true, true, true, false, false, false] rfl rfl (any_of HT_.out (by kernel_rfl)) (fun _ _ _ h => h) (Or.inl ⟨by rfl, ?_⟩) ?_ ?_
                                rotate_left
                                · intro w'
                                  go_simp
                                  with_reducible rfl
                                rotate_left
                                · simp only [Act.put, List.setIfInBounds_toArray, List.set_cons_zero, List.set_cons_succ, i64_w, i32_w]
                                  rfl
                                refine pure_ (i := 12) (N := some 17) (v := ?_) (a' := ?_) #[true, true, true, true, true, true, true, true, true, true, true, true, true, false, false] rfl rfl (any_of HT_.out (by kernel_rfl)) (fun _ _ _ h => h) (Or.inl ⟨by rfl, ?_⟩) ?_ ?_
                                rotate_left
                                · intro w'
                                  go_simp
                                  with_reducible rfl
                                rotate_left
                                · simp only [Act.put, List.setIfInBounds_toArray, List.set_cons_zero, List.set_cons_succ, i64_w, i32_w]
                                  rfl
                                refine pure_ (i := 13) (N := some 18) (v := ?_) (a' := ?_) #[true, true, true, true, true, true, true, true, true, true, true, true, true, true, false] rfl rfl (any_of HT_.out (by kernel_rfl)) (fun _ _ _ h => h) (Or.inl ⟨by rfl, ?_⟩) ?_ ?_
                                rotate_left
                                · intro w'
                                  go_simp
                                  with_reducible rfl
                                rotate_left
                                · simp only [Act.put, List.setIfInBounds_toArray, List.set_cons_zero, List.set_cons_succ, i64_w, i32_w]
                                  rfl
                                refine pure_ (i := 14) (N := some 19) (v := ?_) (a' := ?_) #[true, true, true, true, true, true, true, true, true, true, true, true, true, true, true] rfl rfl (any_of HT_.out (by kernel_rfl)) (fun _ _ _ h => h) (Or.inl ⟨by rfl, ?_⟩) ?_ ?_
                                rotate_left
                                · intro w'
                                  go_simp
                                  with_reducible rfl
                                rotate_left
                                · simp only [Act.put, List.setIfInBounds_toArray, List.set_cons_zero, List.set_cons_succ, i64_w, i32_w]
                                  rfl
                                refine done_ (done_of HT_.out (by kernel_rfl)) ?_
                                try go_wp2
                                go_ret
                                exact ⟨by first | rfl | (simp [errW_none, errW_some] <;> rfl) | (simp only [← hji48]; first | rfl | (simp [errW_none, errW_some] <;> rfl)) | (simp [*, errW_none, errW_some] <;> rfl), by repeat (first | (with_reducible first | exact HB.out | apply below_alloc | apply pw_below_drewN | apply below_drew1 | refine below_set ?_ GE195.out) | exact HB.out)⟩
                              · rw [if_neg c52] at H
                                have c52b0 : (t211 == 0) = false := beq_eq_false_iff_ne.mpr c52
                                have c52b1 : (t211 != 0) = true := bne_iff_ne.mpr c52
                                rw [HRT.out] at H
                                exact absurd (Option.some.inj H) (by decide)
                            · rw [if_neg c50] at H
                              exact absurd H (by simp)
                          · rw [if_neg c49] at H
                            exact absurd H (by simp)
          · rw [if_neg c21] at H
            exact absurd H (by simp)
  · replace c7 := Bool.eq_false_iff.mpr c7
    subst c7
    have H1 : (some false) = some r := by rw [if_neg (show ¬ (false = true) by decide)] at H; exact H
    clear H
    have H := H1
    clear H1
    rw [HRT.out] at H
    exact absurd (Option.some.inj H) (by decide)

end Go.Proofs.Ytloigmonfbfieaa.X
