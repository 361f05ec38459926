/- What each Go function that these laws use answers: as a Lean function, with the proof that the machine's call comes to it. Written by a program of this session (xprint.py). -/
import Derived.Test.YtclikkhkhoicfaaXx0
import Derived.Test.YtclikkhkhoicfaaXx1
import Derived.Test.YtclikkhkhoicfaaXx2
namespace Go.Proofs.Ytclikkhkhoicfaa.X
open Go.RowKit Go.Proofs.YtclikkhkhoicfaaW.PrintWords Go.Proofs.YtclikkhkhoicfaaW.PrintLast Go.Proofs.YtclikkhkhoicfaaW.PrintMore
attribute [local go_sem] max2_int min2_int max_two min_two max_three min_three max_four min_four   -- for this text's walks alone
set_option linter.unusedVariables false
set_option linter.unusedSimpArgs false

attribute [local go_sem high] eqA25 eqA27
/-! ### miradorref22_Same: function 12 -/
mutual
def miradorref22_Same.j0 : Nat → Bool → Int → Bool → Int → Int → Int → Int → Int → Int → Int → Bool → Bool → Int → Int → Int → Int → Int → Int → List Int → ByteArray → Int → Bool → Int → Int → Int → Int → Int → Int → Int → Bool → Bool → Int → Int → Int → Int → Int → Int → List Int → ByteArray → Option (Bool)
  | 0, _, _, _, _, _, _, _, _, _, _, _, _, _, _, _, _, _, _, _, _, _, _, _, _, _, _, _, _, _, _, _, _, _, _, _, _, _, _, _ => none
  | k + 1, x54, x352000, x352001, x352002, x352003, x352004, x352005, x352006, x352007, x352008, x352009, x352010, x352011, x352012, x352013, x352014, x352015, x352016, x352017, x352018, x353000, x353001, x353002, x353003, x353004, x353005, x353006, x353007, x353008, x353009, x353010, x353011, x353012, x353013, x353014, x353015, x353016, x353017, x353018 => if x54 = true then (some false) else (miradorref22_Same.l0 k 0 x352000 x352001 x352002 x352003 x352004 x352005 x352006 x352007 x352008 x352009 x352010 x352011 x352012 x352013 x352014 x352015 x352016 x352017 x352018 x353000 x353001 x353002 x353003 x353004 x353005 x353006 x353007 x353008 x353009 x353010 x353011 x353012 x353013 x353014 x353015 x353016 x353017 x353018)
def miradorref22_Same.l0 : Nat → Int → Int → Bool → Int → Int → Int → Int → Int → Int → Int → Bool → Bool → Int → Int → Int → Int → Int → Int → List Int → ByteArray → Int → Bool → Int → Int → Int → Int → Int → Int → Int → Bool → Bool → Int → Int → Int → Int → Int → Int → List Int → ByteArray → Option (Bool)
  | 0, _, _, _, _, _, _, _, _, _, _, _, _, _, _, _, _, _, _, _, _, _, _, _, _, _, _, _, _, _, _, _, _, _, _, _, _, _, _, _ => none
  | k + 1, x5, x352000, x352001, x352002, x352003, x352004, x352005, x352006, x352007, x352008, x352009, x352010, x352011, x352012, x352013, x352014, x352015, x352016, x352017, x352018, x353000, x353001, x353002, x353003, x353004, x353005, x353006, x353007, x353008, x353009, x353010, x353011, x353012, x353013, x353014, x353015, x353016, x353017, x353018 => if x5 < (x352017.length : Int) then (if 0 ≤ x5 then (if x5 < (x353017.length : Int) then (if (rd x352017 x5) = (rd x353017 x5) then (miradorref22_Same.l0 k (wrap64 (x5 + 1)) x352000 x352001 x352002 x352003 x352004 x352005 x352006 x352007 x352008 x352009 x352010 x352011 x352012 x352013 x352014 x352015 x352016 x352017 x352018 x353000 x353001 x353002 x353003 x353004 x353005 x353006 x353007 x353008 x353009 x353010 x353011 x353012 x353013 x353014 x353015 x353016 x353017 x353018) else (some false)) else (none)) else (none)) else (some true)
end
def miradorref22_Same.f (k : Nat) (a0_0 : Int) (a0_1 : Bool) (a0_2 : Int) (a0_3 : Int) (a0_4 : Int) (a0_5 : Int) (a0_6 : Int) (a0_7 : Int) (a0_8 : Int) (a0_9 : Bool) (a0_10 : Bool) (a0_11 : Int) (a0_12 : Int) (a0_13 : Int) (a0_14 : Int) (a0_15 : Int) (a0_16 : Int) (l0_17 : List Int) (a0_18 : ByteArray) (a1_0 : Int) (a1_1 : Bool) (a1_2 : Int) (a1_3 : Int) (a1_4 : Int) (a1_5 : Int) (a1_6 : Int) (a1_7 : Int) (a1_8 : Int) (a1_9 : Bool) (a1_10 : Bool) (a1_11 : Int) (a1_12 : Int) (a1_13 : Int) (a1_14 : Int) (a1_15 : Int) (a1_16 : Int) (l1_17 : List Int) (a1_18 : ByteArray) : Option (Bool) := if a0_0 = a1_0 then (if (a0_1 != a1_1) = true then (miradorref22_Same.j0 k true a0_0 a0_1 a0_2 a0_3 a0_4 a0_5 a0_6 a0_7 a0_8 a0_9 a0_10 a0_11 a0_12 a0_13 a0_14 a0_15 a0_16 l0_17 a0_18 a1_0 a1_1 a1_2 a1_3 a1_4 a1_5 a1_6 a1_7 a1_8 a1_9 a1_10 a1_11 a1_12 a1_13 a1_14 a1_15 a1_16 l1_17 a1_18) else (if a0_2 = a1_2 then (if (!(a0_3 == a1_3) || (!(a0_4 == a1_4) || (!(a0_5 == a1_5) || (!(a0_6 == a1_6))))) = true then (miradorref22_Same.j0 k true a0_0 a0_1 a0_2 a0_3 a0_4 a0_5 a0_6 a0_7 a0_8 a0_9 a0_10 a0_11 a0_12 a0_13 a0_14 a0_15 a0_16 l0_17 a0_18 a1_0 a1_1 a1_2 a1_3 a1_4 a1_5 a1_6 a1_7 a1_8 a1_9 a1_10 a1_11 a1_12 a1_13 a1_14 a1_15 a1_16 l1_17 a1_18) else (if (!(a0_7 == a1_7) || (!(a0_8 == a1_8) || (!(a0_9 == a1_9) || (!(a0_10 == a1_10) || (!(a0_11 == a1_11) || (!(a0_12 == a1_12) || (!(a0_13 == a1_13) || (!(a0_14 == a1_14) || (!(a0_15 == a1_15) || (!(a0_16 == a1_16))))))))))) = true then (miradorref22_Same.j0 k true a0_0 a0_1 a0_2 a0_3 a0_4 a0_5 a0_6 a0_7 a0_8 a0_9 a0_10 a0_11 a0_12 a0_13 a0_14 a0_15 a0_16 l0_17 a0_18 a1_0 a1_1 a1_2 a1_3 a1_4 a1_5 a1_6 a1_7 a1_8 a1_9 a1_10 a1_11 a1_12 a1_13 a1_14 a1_15 a1_16 l1_17 a1_18) else (if a0_18.toList = a1_18.toList then (miradorref22_Same.j0 k ((l0_17.length : Int) != (l1_17.length : Int)) a0_0 a0_1 a0_2 a0_3 a0_4 a0_5 a0_6 a0_7 a0_8 a0_9 a0_10 a0_11 a0_12 a0_13 a0_14 a0_15 a0_16 l0_17 a0_18 a1_0 a1_1 a1_2 a1_3 a1_4 a1_5 a1_6 a1_7 a1_8 a1_9 a1_10 a1_11 a1_12 a1_13 a1_14 a1_15 a1_16 l1_17 a1_18) else (miradorref22_Same.j0 k true a0_0 a0_1 a0_2 a0_3 a0_4 a0_5 a0_6 a0_7 a0_8 a0_9 a0_10 a0_11 a0_12 a0_13 a0_14 a0_15 a0_16 l0_17 a0_18 a1_0 a1_1 a1_2 a1_3 a1_4 a1_5 a1_6 a1_7 a1_8 a1_9 a1_10 a1_11 a1_12 a1_13 a1_14 a1_15 a1_16 l1_17 a1_18)))) else (miradorref22_Same.j0 k true a0_0 a0_1 a0_2 a0_3 a0_4 a0_5 a0_6 a0_7 a0_8 a0_9 a0_10 a0_11 a0_12 a0_13 a0_14 a0_15 a0_16 l0_17 a0_18 a1_0 a1_1 a1_2 a1_3 a1_4 a1_5 a1_6 a1_7 a1_8 a1_9 a1_10 a1_11 a1_12 a1_13 a1_14 a1_15 a1_16 l1_17 a1_18))) else (miradorref22_Same.j0 k true a0_0 a0_1 a0_2 a0_3 a0_4 a0_5 a0_6 a0_7 a0_8 a0_9 a0_10 a0_11 a0_12 a0_13 a0_14 a0_15 a0_16 l0_17 a0_18 a1_0 a1_1 a1_2 a1_3 a1_4 a1_5 a1_6 a1_7 a1_8 a1_9 a1_10 a1_11 a1_12 a1_13 a1_14 a1_15 a1_16 l1_17 a1_18)
theorem miradorref22_Same.mono_l : ∀ k, (∀ y0 y1 y2 y3 y4 y5 y6 y7 y8 y9 y10 y11 y12 y13 y14 y15 y16 y17 y18 y19 y20 y21 y22 y23 y24 y25 y26 y27 y28 y29 y30 y31 y32 y33 y34 y35 y36 y37 y38, LeO (miradorref22_Same.j0 k y0 y1 y2 y3 y4 y5 y6 y7 y8 y9 y10 y11 y12 y13 y14 y15 y16 y17 y18 y19 y20 y21 y22 y23 y24 y25 y26 y27 y28 y29 y30 y31 y32 y33 y34 y35 y36 y37 y38) (miradorref22_Same.j0 (k + 1) y0 y1 y2 y3 y4 y5 y6 y7 y8 y9 y10 y11 y12 y13 y14 y15 y16 y17 y18 y19 y20 y21 y22 y23 y24 y25 y26 y27 y28 y29 y30 y31 y32 y33 y34 y35 y36 y37 y38)) ∧ (∀ y0 y1 y2 y3 y4 y5 y6 y7 y8 y9 y10 y11 y12 y13 y14 y15 y16 y17 y18 y19 y20 y21 y22 y23 y24 y25 y26 y27 y28 y29 y30 y31 y32 y33 y34 y35 y36 y37 y38, LeO (miradorref22_Same.l0 k y0 y1 y2 y3 y4 y5 y6 y7 y8 y9 y10 y11 y12 y13 y14 y15 y16 y17 y18 y19 y20 y21 y22 y23 y24 y25 y26 y27 y28 y29 y30 y31 y32 y33 y34 y35 y36 y37 y38) (miradorref22_Same.l0 (k + 1) y0 y1 y2 y3 y4 y5 y6 y7 y8 y9 y10 y11 y12 y13 y14 y15 y16 y17 y18 y19 y20 y21 y22 y23 y24 y25 y26 y27 y28 y29 y30 y31 y32 y33 y34 y35 y36 y37 y38))
  | 0 => ⟨fun _ _ _ _ _ _ _ _ _ _ _ _ _ _ _ _ _ _ _ _ _ _ _ _ _ _ _ _ _ _ _ _ _ _ _ _ _ _ _ r h => by simp [miradorref22_Same.j0] at h, fun _ _ _ _ _ _ _ _ _ _ _ _ _ _ _ _ _ _ _ _ _ _ _ _ _ _ _ _ _ _ _ _ _ _ _ _ _ _ _ r h => by simp [miradorref22_Same.l0] at h⟩
  | k + 1 => by
    obtain ⟨ih0, ih1⟩ := miradorref22_Same.mono_l k
    refine ⟨?_, ?_⟩
    · intro y0 y1 y2 y3 y4 y5 y6 y7 y8 y9 y10 y11 y12 y13 y14 y15 y16 y17 y18 y19 y20 y21 y22 y23 y24 y25 y26 y27 y28 y29 y30 y31 y32 y33 y34 y35 y36 y37 y38
      unfold miradorref22_Same.j0
      repeat' first
      | (with_reducible exact ih0 _ _ _ _ _ _ _ _ _ _ _ _ _ _ _ _ _ _ _ _ _ _ _ _ _ _ _ _ _ _ _ _ _ _ _ _ _ _ _)
      | (with_reducible exact ih1 _ _ _ _ _ _ _ _ _ _ _ _ _ _ _ _ _ _ _ _ _ _ _ _ _ _ _ _ _ _ _ _ _ _ _ _ _ _ _)
      | (with_reducible exact LeO.refl _)
      | (with_reducible exact LeO.none _)
      | (with_reducible refine LeO.ite ?_ ?_)
      | (with_reducible refine LeO.bind ?_ (fun _ => ?_))
      | exact ih0 _ _ _ _ _ _ _ _ _ _ _ _ _ _ _ _ _ _ _ _ _ _ _ _ _ _ _ _ _ _ _ _ _ _ _ _ _ _ _
      | exact ih1 _ _ _ _ _ _ _ _ _ _ _ _ _ _ _ _ _ _ _ _ _ _ _ _ _ _ _ _ _ _ _ _ _ _ _ _ _ _ _
      | exact LeO.none _
      | refine LeO.ite ?_ ?_
      | refine LeO.bind ?_ (fun _ => ?_)
    · intro y0 y1 y2 y3 y4 y5 y6 y7 y8 y9 y10 y11 y12 y13 y14 y15 y16 y17 y18 y19 y20 y21 y22 y23 y24 y25 y26 y27 y28 y29 y30 y31 y32 y33 y34 y35 y36 y37 y38
      unfold miradorref22_Same.l0
      repeat' first
      | (with_reducible exact ih0 _ _ _ _ _ _ _ _ _ _ _ _ _ _ _ _ _ _ _ _ _ _ _ _ _ _ _ _ _ _ _ _ _ _ _ _ _ _ _)
      | (with_reducible exact ih1 _ _ _ _ _ _ _ _ _ _ _ _ _ _ _ _ _ _ _ _ _ _ _ _ _ _ _ _ _ _ _ _ _ _ _ _ _ _ _)
      | (with_reducible exact LeO.refl _)
      | (with_reducible exact LeO.none _)
      | (with_reducible refine LeO.ite ?_ ?_)
      | (with_reducible refine LeO.bind ?_ (fun _ => ?_))
      | exact ih0 _ _ _ _ _ _ _ _ _ _ _ _ _ _ _ _ _ _ _ _ _ _ _ _ _ _ _ _ _ _ _ _ _ _ _ _ _ _ _
      | exact ih1 _ _ _ _ _ _ _ _ _ _ _ _ _ _ _ _ _ _ _ _ _ _ _ _ _ _ _ _ _ _ _ _ _ _ _ _ _ _ _
      | exact LeO.none _
      | refine LeO.ite ?_ ?_
      | refine LeO.bind ?_ (fun _ => ?_)
theorem miradorref22_Same.mono : ∀ a0 a1 a2 a3 a4 a5 a6 a7 a8 a9 a10 a11 a12 a13 a14 a15 a16 a17 a18 a19 a20 a21 a22 a23 a24 a25 a26 a27 a28 a29 a30 a31 a32 a33 a34 a35 a36 a37 k, LeO (miradorref22_Same.f k a0 a1 a2 a3 a4 a5 a6 a7 a8 a9 a10 a11 a12 a13 a14 a15 a16 a17 a18 a19 a20 a21 a22 a23 a24 a25 a26 a27 a28 a29 a30 a31 a32 a33 a34 a35 a36 a37) (miradorref22_Same.f (k + 1) a0 a1 a2 a3 a4 a5 a6 a7 a8 a9 a10 a11 a12 a13 a14 a15 a16 a17 a18 a19 a20 a21 a22 a23 a24 a25 a26 a27 a28 a29 a30 a31 a32 a33 a34 a35 a36 a37) := by
  intro a0 a1 a2 a3 a4 a5 a6 a7 a8 a9 a10 a11 a12 a13 a14 a15 a16 a17 a18 a19 a20 a21 a22 a23 a24 a25 a26 a27 a28 a29 a30 a31 a32 a33 a34 a35 a36 a37 k
  obtain ⟨ih0, ih1⟩ := miradorref22_Same.mono_l k
  unfold miradorref22_Same.f
  repeat' first
      | (with_reducible exact ih0 _ _ _ _ _ _ _ _ _ _ _ _ _ _ _ _ _ _ _ _ _ _ _ _ _ _ _ _ _ _ _ _ _ _ _ _ _ _ _)
      | (with_reducible exact ih1 _ _ _ _ _ _ _ _ _ _ _ _ _ _ _ _ _ _ _ _ _ _ _ _ _ _ _ _ _ _ _ _ _ _ _ _ _ _ _)
      | (with_reducible exact LeO.refl _)
      | (with_reducible exact LeO.none _)
      | (with_reducible refine LeO.ite ?_ ?_)
      | (with_reducible refine LeO.bind ?_ (fun _ => ?_))
      | exact ih0 _ _ _ _ _ _ _ _ _ _ _ _ _ _ _ _ _ _ _ _ _ _ _ _ _ _ _ _ _ _ _ _ _ _ _ _ _ _ _
      | exact ih1 _ _ _ _ _ _ _ _ _ _ _ _ _ _ _ _ _ _ _ _ _ _ _ _ _ _ _ _ _ _ _ _ _ _ _ _ _ _ _
      | exact LeO.none _
      | refine LeO.ite ?_ ?_
      | refine LeO.bind ?_ (fun _ => ?_)
set_option maxHeartbeats 8000000 in
set_option maxRecDepth 100000 in
theorem miradorref22_Same.calls (k : Nat) (a0_0 : Int) (a0_1 : Bool) (a0_2 : Int) (a0_3 : Int) (a0_4 : Int) (a0_5 : Int) (a0_6 : Int) (a0_7 : Int) (a0_8 : Int) (a0_9 : Bool) (a0_10 : Bool) (a0_11 : Int) (a0_12 : Int) (a0_13 : Int) (a0_14 : Int) (a0_15 : Int) (a0_16 : Int) (A0_17 : Option Addr) (c0_17 : Nat) (l0_17 : List Int) (a0_18 : ByteArray) (a1_0 : Int) (a1_1 : Bool) (a1_2 : Int) (a1_3 : Int) (a1_4 : Int) (a1_5 : Int) (a1_6 : Int) (a1_7 : Int) (a1_8 : Int) (a1_9 : Bool) (a1_10 : Bool) (a1_11 : Int) (a1_12 : Int) (a1_13 : Int) (a1_14 : Int) (a1_15 : Int) (a1_16 : Int) (A1_17 : Option Addr) (c1_17 : Nat) (l1_17 : List Int) (a1_18 : ByteArray) (r : Bool) (w : World) (hr0_17 : Kd.C (Kd.int .i64) w A0_17 l0_17.length l0_17) (hc0_17 : l0_17.length ≤ c0_17) (hr1_17 : Kd.C (Kd.int .i64) w A1_17 l1_17.length l1_17) (hc1_17 : l1_17.length ≤ c1_17) (h : miradorref22_Same.f k a0_0 a0_1 a0_2 a0_3 a0_4 a0_5 a0_6 a0_7 a0_8 a0_9 a0_10 a0_11 a0_12 a0_13 a0_14 a0_15 a0_16 l0_17 a0_18 a1_0 a1_1 a1_2 a1_3 a1_4 a1_5 a1_6 a1_7 a1_8 a1_9 a1_10 a1_11 a1_12 a1_13 a1_14 a1_15 a1_16 l1_17 a1_18 = some r) :
    Calls Try.prog 12 #[.agg #[.int .i64 a0_0, .bool a0_1, .int .i64 a0_2, .int .i64 a0_3, .int .i64 a0_4, .int .i64 a0_5, .int .i64 a0_6, .int .i64 a0_7, .int .i64 a0_8, .bool a0_9, .bool a0_10, .int .i64 a0_11, .int .i64 a0_12, .int .i64 a0_13, .int .i64 a0_14, .int .i64 a0_15, .int .i64 a0_16, .slice A0_17 l0_17.length c0_17, .string a0_18], .agg #[.int .i64 a1_0, .bool a1_1, .int .i64 a1_2, .int .i64 a1_3, .int .i64 a1_4, .int .i64 a1_5, .int .i64 a1_6, .int .i64 a1_7, .int .i64 a1_8, .bool a1_9, .bool a1_10, .int .i64 a1_11, .int .i64 a1_12, .int .i64 a1_13, .int .i64 a1_14, .int .i64 a1_15, .int .i64 a1_16, .slice A1_17 l1_17.length c1_17, .string a1_18]] w fun e w' => e = .returned (.bool r) ∧ Below w.heap.size w w' := by
  have hu30 := Try.underlying30
  have hu25 := Try.underlying25
  have hu27 := Try.underlying27
  have HR0_17 := Aside0.mk hr0_17
  have HC0_17 := Aside0.mk hc0_17
  clear hr0_17 hc0_17
  have HR1_17 := Aside0.mk hr1_17
  have HC1_17 := Aside0.mk hc1_17
  clear hr1_17 hc1_17
  have HB := Aside0.mk (Below.refl w.heap.size w)
  have H : (if a0_0 = a1_0 then (if (a0_1 != a1_1) = true then (miradorref22_Same.j0 k true a0_0 a0_1 a0_2 a0_3 a0_4 a0_5 a0_6 a0_7 a0_8 a0_9 a0_10 a0_11 a0_12 a0_13 a0_14 a0_15 a0_16 l0_17 a0_18 a1_0 a1_1 a1_2 a1_3 a1_4 a1_5 a1_6 a1_7 a1_8 a1_9 a1_10 a1_11 a1_12 a1_13 a1_14 a1_15 a1_16 l1_17 a1_18) else (if a0_2 = a1_2 then (if (!(a0_3 == a1_3) || (!(a0_4 == a1_4) || (!(a0_5 == a1_5) || (!(a0_6 == a1_6))))) = true then (miradorref22_Same.j0 k true a0_0 a0_1 a0_2 a0_3 a0_4 a0_5 a0_6 a0_7 a0_8 a0_9 a0_10 a0_11 a0_12 a0_13 a0_14 a0_15 a0_16 l0_17 a0_18 a1_0 a1_1 a1_2 a1_3 a1_4 a1_5 a1_6 a1_7 a1_8 a1_9 a1_10 a1_11 a1_12 a1_13 a1_14 a1_15 a1_16 l1_17 a1_18) else (if (!(a0_7 == a1_7) || (!(a0_8 == a1_8) || (!(a0_9 == a1_9) || (!(a0_10 == a1_10) || (!(a0_11 == a1_11) || (!(a0_12 == a1_12) || (!(a0_13 == a1_13) || (!(a0_14 == a1_14) || (!(a0_15 == a1_15) || (!(a0_16 == a1_16))))))))))) = true then (miradorref22_Same.j0 k true a0_0 a0_1 a0_2 a0_3 a0_4 a0_5 a0_6 a0_7 a0_8 a0_9 a0_10 a0_11 a0_12 a0_13 a0_14 a0_15 a0_16 l0_17 a0_18 a1_0 a1_1 a1_2 a1_3 a1_4 a1_5 a1_6 a1_7 a1_8 a1_9 a1_10 a1_11 a1_12 a1_13 a1_14 a1_15 a1_16 l1_17 a1_18) else (if a0_18.toList = a1_18.toList then (miradorref22_Same.j0 k ((l0_17.length : Int) != (l1_17.length : Int)) a0_0 a0_1 a0_2 a0_3 a0_4 a0_5 a0_6 a0_7 a0_8 a0_9 a0_10 a0_11 a0_12 a0_13 a0_14 a0_15 a0_16 l0_17 a0_18 a1_0 a1_1 a1_2 a1_3 a1_4 a1_5 a1_6 a1_7 a1_8 a1_9 a1_10 a1_11 a1_12 a1_13 a1_14 a1_15 a1_16 l1_17 a1_18) else (miradorref22_Same.j0 k true a0_0 a0_1 a0_2 a0_3 a0_4 a0_5 a0_6 a0_7 a0_8 a0_9 a0_10 a0_11 a0_12 a0_13 a0_14 a0_15 a0_16 l0_17 a0_18 a1_0 a1_1 a1_2 a1_3 a1_4 a1_5 a1_6 a1_7 a1_8 a1_9 a1_10 a1_11 a1_12 a1_13 a1_14 a1_15 a1_16 l1_17 a1_18)))) else (miradorref22_Same.j0 k true a0_0 a0_1 a0_2 a0_3 a0_4 a0_5 a0_6 a0_7 a0_8 a0_9 a0_10 a0_11 a0_12 a0_13 a0_14 a0_15 a0_16 l0_17 a0_18 a1_0 a1_1 a1_2 a1_3 a1_4 a1_5 a1_6 a1_7 a1_8 a1_9 a1_10 a1_11 a1_12 a1_13 a1_14 a1_15 a1_16 l1_17 a1_18))) else (miradorref22_Same.j0 k true a0_0 a0_1 a0_2 a0_3 a0_4 a0_5 a0_6 a0_7 a0_8 a0_9 a0_10 a0_11 a0_12 a0_13 a0_14 a0_15 a0_16 l0_17 a0_18 a1_0 a1_1 a1_2 a1_3 a1_4 a1_5 a1_6 a1_7 a1_8 a1_9 a1_10 a1_11 a1_12 a1_13 a1_14 a1_15 a1_16 l1_17 a1_18)) = some r := h
  clear h
  have HC3 := Aside0.mk H
  clear H
  go_enter Try.func12, Try.ntmps12
  go_upto_region 1 with (first | ((with_reducible refine gate_dst (N := 2) rfl ?_); (try (refine gate_guard (by rfl) ?_; dsimp only)); refine box_event ?hg (N := 2) ?hd (cs := #[.int .i64 a0_0, .bool a0_1, .int .i64 a0_2, .int .i64 a0_3, .int .i64 a0_4, .int .i64 a0_5, .int .i64 a0_6, .int .i64 a0_7, .int .i64 a0_8, .bool a0_9, .bool a0_10, .int .i64 a0_11, .int .i64 a0_12, .int .i64 a0_13, .int .i64 a0_14, .int .i64 a0_15, .int .i64 a0_16, .slice A0_17 l0_17.length c0_17, .string a0_18]) (t := 30) ?hr ?_; (case hd => rfl); (case hg => rfl); (case hr => first | (go_simp; done) | (go_simp; rfl)); intro gb351 hg w4 hbox hb; have n0_ := Aside0.mk (below_step (by repeat (first | (with_reducible first | exact HB.out | apply below_alloc | apply pw_below_drewN | apply below_drew1) | exact HB.out)) hb); have n1_ := Aside0.mk (hbox); have n2_ := Aside0.mk ((by rw [hg]; exact (below_size (by repeat (first | (with_reducible first | exact HB.out | apply below_alloc | apply pw_below_drewN | apply below_drew1) | exact HB.out))) : w.heap.size ≤ gb351)); have n3_ := Aside0.mk ((by rw [hg]; exact (below_size (by repeat (first | (with_reducible first | exact HB.out | apply below_alloc | apply pw_below_drewN | apply below_drew1) | exact HB.out))) : w.heap.size ≤ gb351)); clear HB; have HB := n0_; have BK351 := n1_; have GW351 := n2_; have GE351 := n3_; clear n0_ n1_ n2_ n3_; clear hb hbox hg) | ((with_reducible refine gate_dst (N := 3) rfl ?_); (try (refine gate_guard (by rfl) ?_; dsimp only)); refine box_event ?hg (N := 3) ?hd (cs := #[.int .i64 a1_0, .bool a1_1, .int .i64 a1_2, .int .i64 a1_3, .int .i64 a1_4, .int .i64 a1_5, .int .i64 a1_6, .int .i64 a1_7, .int .i64 a1_8, .bool a1_9, .bool a1_10, .int .i64 a1_11, .int .i64 a1_12, .int .i64 a1_13, .int .i64 a1_14, .int .i64 a1_15, .int .i64 a1_16, .slice A1_17 l1_17.length c1_17, .string a1_18]) (t := 30) ?hr ?_; (case hd => rfl); (case hg => rfl); (case hr => first | (go_simp; done) | (go_simp; rfl)); intro gb352 hg w5 hbox hb; have n0_ := Aside0.mk (blk_below (g := gb351) (o := .cells #[.int .i64 a0_0, .bool a0_1, .int .i64 a0_2, .int .i64 a0_3, .int .i64 a0_4, .int .i64 a0_5, .int .i64 a0_6, .int .i64 a0_7, .int .i64 a0_8, .bool a0_9, .bool a0_10, .int .i64 a0_11, .int .i64 a0_12, .int .i64 a0_13, .int .i64 a0_14, .int .i64 a0_15, .int .i64 a0_16, .slice A0_17 l0_17.length c0_17, .string a0_18] 30 (0, 0)) (by (with_reducible repeat (first | refine blk_drewN ?_ _ | refine blk_drew ?_ | refine blk_alloc ?_ _)); exact BK351.out) hb); have n1_ := Aside0.mk (below_step (by repeat (first | (with_reducible first | exact HB.out | apply below_alloc | apply pw_below_drewN | apply below_drew1 | refine below_set ?_ GE351.out) | exact HB.out)) hb); have n2_ := Aside0.mk (hbox); have n3_ := Aside0.mk ((by rw [hg]; exact (below_size (by repeat (first | (with_reducible first | exact HB.out | apply below_alloc | apply pw_below_drewN | apply below_drew1 | refine below_set ?_ GE351.out) | exact HB.out))) : w.heap.size ≤ gb352)); have n4_ := Aside0.mk ((by rw [hg]; exact (below_size (by repeat (first | (with_reducible first | exact HB.out | apply below_alloc | apply pw_below_drewN | apply below_drew1 | refine below_set ?_ GE351.out) | exact HB.out))) : w.heap.size ≤ gb352)); have n5_ := Aside0.mk ((by rw [hg]; exact Nat.ne_of_lt (blk_lt (g := gb351) (o := .cells #[.int .i64 a0_0, .bool a0_1, .int .i64 a0_2, .int .i64 a0_3, .int .i64 a0_4, .int .i64 a0_5, .int .i64 a0_6, .int .i64 a0_7, .int .i64 a0_8, .bool a0_9, .bool a0_10, .int .i64 a0_11, .int .i64 a0_12, .int .i64 a0_13, .int .i64 a0_14, .int .i64 a0_15, .int .i64 a0_16, .slice A0_17 l0_17.length c0_17, .string a0_18] 30 (0, 0)) (by (with_reducible repeat (first | refine blk_drewN ?_ _ | refine blk_drew ?_ | refine blk_alloc ?_ _)); exact BK351.out)) : gb351 ≠ gb352)); have n6_ := Aside0.mk ((by rw [hg]; exact Nat.ne_of_gt (blk_lt (g := gb351) (o := .cells #[.int .i64 a0_0, .bool a0_1, .int .i64 a0_2, .int .i64 a0_3, .int .i64 a0_4, .int .i64 a0_5, .int .i64 a0_6, .int .i64 a0_7, .int .i64 a0_8, .bool a0_9, .bool a0_10, .int .i64 a0_11, .int .i64 a0_12, .int .i64 a0_13, .int .i64 a0_14, .int .i64 a0_15, .int .i64 a0_16, .slice A0_17 l0_17.length c0_17, .string a0_18] 30 (0, 0)) (by (with_reducible repeat (first | refine blk_drewN ?_ _ | refine blk_drew ?_ | refine blk_alloc ?_ _)); exact BK351.out)) : gb352 ≠ gb351)); clear BK351; clear HB; have BK351 := n0_; have HB := n1_; have BK352 := n2_; have GW352 := n3_; have GE352 := n4_; have NB351_352 := n5_; have NB352_351 := n6_; clear n0_ n1_ n2_ n3_ n4_ n5_ n6_; clear hb hbox hg))
  repeat (go_quiet (first | ((with_reducible refine gate_dst (N := 2) rfl ?_); (try (refine gate_guard (by rfl) ?_; dsimp only)); refine box_event ?hg (N := 2) ?hd (cs := #[.int .i64 a0_0, .bool a0_1, .int .i64 a0_2, .int .i64 a0_3, .int .i64 a0_4, .int .i64 a0_5, .int .i64 a0_6, .int .i64 a0_7, .int .i64 a0_8, .bool a0_9, .bool a0_10, .int .i64 a0_11, .int .i64 a0_12, .int .i64 a0_13, .int .i64 a0_14, .int .i64 a0_15, .int .i64 a0_16, .slice A0_17 l0_17.length c0_17, .string a0_18]) (t := 30) ?hr ?_; (case hd => rfl); (case hg => rfl); (case hr => first | (go_simp; done) | (go_simp; rfl)); intro gb351 hg w4 hbox hb; have n0_ := Aside0.mk (below_step (by repeat (first | (with_reducible first | exact HB.out | apply below_alloc | apply pw_below_drewN | apply below_drew1) | exact HB.out)) hb); have n1_ := Aside0.mk (hbox); have n2_ := Aside0.mk ((by rw [hg]; exact (below_size (by repeat (first | (with_reducible first | exact HB.out | apply below_alloc | apply pw_below_drewN | apply below_drew1) | exact HB.out))) : w.heap.size ≤ gb351)); have n3_ := Aside0.mk ((by rw [hg]; exact (below_size (by repeat (first | (with_reducible first | exact HB.out | apply below_alloc | apply pw_below_drewN | apply below_drew1) | exact HB.out))) : w.heap.size ≤ gb351)); clear HB; have HB := n0_; have BK351 := n1_; have GW351 := n2_; have GE351 := n3_; clear n0_ n1_ n2_ n3_; clear hb hbox hg) | ((with_reducible refine gate_dst (N := 3) rfl ?_); (try (refine gate_guard (by rfl) ?_; dsimp only)); refine box_event ?hg (N := 3) ?hd (cs := #[.int .i64 a1_0, .bool a1_1, .int .i64 a1_2, .int .i64 a1_3, .int .i64 a1_4, .int .i64 a1_5, .int .i64 a1_6, .int .i64 a1_7, .int .i64 a1_8, .bool a1_9, .bool a1_10, .int .i64 a1_11, .int .i64 a1_12, .int .i64 a1_13, .int .i64 a1_14, .int .i64 a1_15, .int .i64 a1_16, .slice A1_17 l1_17.length c1_17, .string a1_18]) (t := 30) ?hr ?_; (case hd => rfl); (case hg => rfl); (case hr => first | (go_simp; done) | (go_simp; rfl)); intro gb352 hg w5 hbox hb; have n0_ := Aside0.mk (blk_below (g := gb351) (o := .cells #[.int .i64 a0_0, .bool a0_1, .int .i64 a0_2, .int .i64 a0_3, .int .i64 a0_4, .int .i64 a0_5, .int .i64 a0_6, .int .i64 a0_7, .int .i64 a0_8, .bool a0_9, .bool a0_10, .int .i64 a0_11, .int .i64 a0_12, .int .i64 a0_13, .int .i64 a0_14, .int .i64 a0_15, .int .i64 a0_16, .slice A0_17 l0_17.length c0_17, .string a0_18] 30 (0, 0)) (by (with_reducible repeat (first | refine blk_drewN ?_ _ | refine blk_drew ?_ | refine blk_alloc ?_ _)); exact BK351.out) hb); have n1_ := Aside0.mk (below_step (by repeat (first | (with_reducible first | exact HB.out | apply below_alloc | apply pw_below_drewN | apply below_drew1 | refine below_set ?_ GE351.out) | exact HB.out)) hb); have n2_ := Aside0.mk (hbox); have n3_ := Aside0.mk ((by rw [hg]; exact (below_size (by repeat (first | (with_reducible first | exact HB.out | apply below_alloc | apply pw_below_drewN | apply below_drew1 | refine below_set ?_ GE351.out) | exact HB.out))) : w.heap.size ≤ gb352)); have n4_ := Aside0.mk ((by rw [hg]; exact (below_size (by repeat (first | (with_reducible first | exact HB.out | apply below_alloc | apply pw_below_drewN | apply below_drew1 | refine below_set ?_ GE351.out) | exact HB.out))) : w.heap.size ≤ gb352)); have n5_ := Aside0.mk ((by rw [hg]; exact Nat.ne_of_lt (blk_lt (g := gb351) (o := .cells #[.int .i64 a0_0, .bool a0_1, .int .i64 a0_2, .int .i64 a0_3, .int .i64 a0_4, .int .i64 a0_5, .int .i64 a0_6, .int .i64 a0_7, .int .i64 a0_8, .bool a0_9, .bool a0_10, .int .i64 a0_11, .int .i64 a0_12, .int .i64 a0_13, .int .i64 a0_14, .int .i64 a0_15, .int .i64 a0_16, .slice A0_17 l0_17.length c0_17, .string a0_18] 30 (0, 0)) (by (with_reducible repeat (first | refine blk_drewN ?_ _ | refine blk_drew ?_ | refine blk_alloc ?_ _)); exact BK351.out)) : gb351 ≠ gb352)); have n6_ := Aside0.mk ((by rw [hg]; exact Nat.ne_of_gt (blk_lt (g := gb351) (o := .cells #[.int .i64 a0_0, .bool a0_1, .int .i64 a0_2, .int .i64 a0_3, .int .i64 a0_4, .int .i64 a0_5, .int .i64 a0_6, .int .i64 a0_7, .int .i64 a0_8, .bool a0_9, .bool a0_10, .int .i64 a0_11, .int .i64 a0_12, .int .i64 a0_13, .int .i64 a0_14, .int .i64 a0_15, .int .i64 a0_16, .slice A0_17 l0_17.length c0_17, .string a0_18] 30 (0, 0)) (by (with_reducible repeat (first | refine blk_drewN ?_ _ | refine blk_drew ?_ | refine blk_alloc ?_ _)); exact BK351.out)) : gb352 ≠ gb351)); clear BK351; clear HB; have BK351 := n0_; have HB := n1_; have BK352 := n2_; have GW352 := n3_; have GE352 := n4_; have NB351_352 := n5_; have NB352_351 := n6_; clear n0_ n1_ n2_ n3_ n4_ n5_ n6_; clear hb hbox hg)); go_upto_region 1 with (first | ((with_reducible refine gate_dst (N := 2) rfl ?_); (try (refine gate_guard (by rfl) ?_; dsimp only)); refine box_event ?hg (N := 2) ?hd (cs := #[.int .i64 a0_0, .bool a0_1, .int .i64 a0_2, .int .i64 a0_3, .int .i64 a0_4, .int .i64 a0_5, .int .i64 a0_6, .int .i64 a0_7, .int .i64 a0_8, .bool a0_9, .bool a0_10, .int .i64 a0_11, .int .i64 a0_12, .int .i64 a0_13, .int .i64 a0_14, .int .i64 a0_15, .int .i64 a0_16, .slice A0_17 l0_17.length c0_17, .string a0_18]) (t := 30) ?hr ?_; (case hd => rfl); (case hg => rfl); (case hr => first | (go_simp; done) | (go_simp; rfl)); intro gb351 hg w4 hbox hb; have n0_ := Aside0.mk (below_step (by repeat (first | (with_reducible first | exact HB.out | apply below_alloc | apply pw_below_drewN | apply below_drew1) | exact HB.out)) hb); have n1_ := Aside0.mk (hbox); have n2_ := Aside0.mk ((by rw [hg]; exact (below_size (by repeat (first | (with_reducible first | exact HB.out | apply below_alloc | apply pw_below_drewN | apply below_drew1) | exact HB.out))) : w.heap.size ≤ gb351)); have n3_ := Aside0.mk ((by rw [hg]; exact (below_size (by repeat (first | (with_reducible first | exact HB.out | apply below_alloc | apply pw_below_drewN | apply below_drew1) | exact HB.out))) : w.heap.size ≤ gb351)); clear HB; have HB := n0_; have BK351 := n1_; have GW351 := n2_; have GE351 := n3_; clear n0_ n1_ n2_ n3_; clear hb hbox hg) | ((with_reducible refine gate_dst (N := 3) rfl ?_); (try (refine gate_guard (by rfl) ?_; dsimp only)); refine box_event ?hg (N := 3) ?hd (cs := #[.int .i64 a1_0, .bool a1_1, .int .i64 a1_2, .int .i64 a1_3, .int .i64 a1_4, .int .i64 a1_5, .int .i64 a1_6, .int .i64 a1_7, .int .i64 a1_8, .bool a1_9, .bool a1_10, .int .i64 a1_11, .int .i64 a1_12, .int .i64 a1_13, .int .i64 a1_14, .int .i64 a1_15, .int .i64 a1_16, .slice A1_17 l1_17.length c1_17, .string a1_18]) (t := 30) ?hr ?_; (case hd => rfl); (case hg => rfl); (case hr => first | (go_simp; done) | (go_simp; rfl)); intro gb352 hg w5 hbox hb; have n0_ := Aside0.mk (blk_below (g := gb351) (o := .cells #[.int .i64 a0_0, .bool a0_1, .int .i64 a0_2, .int .i64 a0_3, .int .i64 a0_4, .int .i64 a0_5, .int .i64 a0_6, .int .i64 a0_7, .int .i64 a0_8, .bool a0_9, .bool a0_10, .int .i64 a0_11, .int .i64 a0_12, .int .i64 a0_13, .int .i64 a0_14, .int .i64 a0_15, .int .i64 a0_16, .slice A0_17 l0_17.length c0_17, .string a0_18] 30 (0, 0)) (by (with_reducible repeat (first | refine blk_drewN ?_ _ | refine blk_drew ?_ | refine blk_alloc ?_ _)); exact BK351.out) hb); have n1_ := Aside0.mk (below_step (by repeat (first | (with_reducible first | exact HB.out | apply below_alloc | apply pw_below_drewN | apply below_drew1 | refine below_set ?_ GE351.out) | exact HB.out)) hb); have n2_ := Aside0.mk (hbox); have n3_ := Aside0.mk ((by rw [hg]; exact (below_size (by repeat (first | (with_reducible first | exact HB.out | apply below_alloc | apply pw_below_drewN | apply below_drew1 | refine below_set ?_ GE351.out) | exact HB.out))) : w.heap.size ≤ gb352)); have n4_ := Aside0.mk ((by rw [hg]; exact (below_size (by repeat (first | (with_reducible first | exact HB.out | apply below_alloc | apply pw_below_drewN | apply below_drew1 | refine below_set ?_ GE351.out) | exact HB.out))) : w.heap.size ≤ gb352)); have n5_ := Aside0.mk ((by rw [hg]; exact Nat.ne_of_lt (blk_lt (g := gb351) (o := .cells #[.int .i64 a0_0, .bool a0_1, .int .i64 a0_2, .int .i64 a0_3, .int .i64 a0_4, .int .i64 a0_5, .int .i64 a0_6, .int .i64 a0_7, .int .i64 a0_8, .bool a0_9, .bool a0_10, .int .i64 a0_11, .int .i64 a0_12, .int .i64 a0_13, .int .i64 a0_14, .int .i64 a0_15, .int .i64 a0_16, .slice A0_17 l0_17.length c0_17, .string a0_18] 30 (0, 0)) (by (with_reducible repeat (first | refine blk_drewN ?_ _ | refine blk_drew ?_ | refine blk_alloc ?_ _)); exact BK351.out)) : gb351 ≠ gb352)); have n6_ := Aside0.mk ((by rw [hg]; exact Nat.ne_of_gt (blk_lt (g := gb351) (o := .cells #[.int .i64 a0_0, .bool a0_1, .int .i64 a0_2, .int .i64 a0_3, .int .i64 a0_4, .int .i64 a0_5, .int .i64 a0_6, .int .i64 a0_7, .int .i64 a0_8, .bool a0_9, .bool a0_10, .int .i64 a0_11, .int .i64 a0_12, .int .i64 a0_13, .int .i64 a0_14, .int .i64 a0_15, .int .i64 a0_16, .slice A0_17 l0_17.length c0_17, .string a0_18] 30 (0, 0)) (by (with_reducible repeat (first | refine blk_drewN ?_ _ | refine blk_drew ?_ | refine blk_alloc ?_ _)); exact BK351.out)) : gb352 ≠ gb351)); clear BK351; clear HB; have BK351 := n0_; have HB := n1_; have BK352 := n2_; have GW352 := n3_; have GE352 := n4_; have NB351_352 := n5_; have NB352_351 := n6_; clear n0_ n1_ n2_ n3_ n4_ n5_ n6_; clear hb hbox hg)))
  (try simp only [Act.put, List.setIfInBounds_toArray, List.set_cons_zero, List.set_cons_succ])
  go_cut [54] (fun v54 wc => ∃ (kq : Nat) (x54_2 : Bool), v54 = .bool x54_2 ∧ Aside0 (miradorref22_Same.j0 kq x54_2 a0_0 a0_1 a0_2 a0_3 a0_4 a0_5 a0_6 a0_7 a0_8 a0_9 a0_10 a0_11 a0_12 a0_13 a0_14 a0_15 a0_16 l0_17 a0_18 a1_0 a1_1 a1_2 a1_3 a1_4 a1_5 a1_6 a1_7 a1_8 a1_9 a1_10 a1_11 a1_12 a1_13 a1_14 a1_15 a1_16 l1_17 a1_18 = some r) ∧ Aside0 (kq ≤ k) ∧ Aside0 (wc.heap[gb351]? = some (.cells #[.int .i64 a0_0, .bool a0_1, .int .i64 a0_2, .int .i64 a0_3, .int .i64 a0_4, .int .i64 a0_5, .int .i64 a0_6, .int .i64 a0_7, .int .i64 a0_8, .bool a0_9, .bool a0_10, .int .i64 a0_11, .int .i64 a0_12, .int .i64 a0_13, .int .i64 a0_14, .int .i64 a0_15, .int .i64 a0_16, (.slice A0_17 l0_17.length c0_17), .string a0_18] 30 (0, 0))) ∧ Aside0 (wc.heap[gb352]? = some (.cells #[.int .i64 a1_0, .bool a1_1, .int .i64 a1_2, .int .i64 a1_3, .int .i64 a1_4, .int .i64 a1_5, .int .i64 a1_6, .int .i64 a1_7, .int .i64 a1_8, .bool a1_9, .bool a1_10, .int .i64 a1_11, .int .i64 a1_12, .int .i64 a1_13, .int .i64 a1_14, .int .i64 a1_15, .int .i64 a1_16, (.slice A1_17 l1_17.length c1_17), .string a1_18] 30 (0, 0))) ∧ Aside0 (Below w.heap.size w wc))
  case first =>
    have H := HC3.out
    clear HC3
    by_cases c6 : a0_0 = a1_0
    · rw [if_pos c6] at H
      have c6b0 : (a0_0 == a1_0) = true := beq_iff_eq.mpr c6
      have c6b1 : (a0_0 != a1_0) = false := bne_eq_false_iff_eq.mpr c6
      clear c6
      (first | rw [c6b0] | (simp only [i64_w, i32_w]; rw [c6b0]) | skip)
      by_cases c7 : (a0_1 != a1_1) = true
      · rw [if_pos c7] at H
        have c7b0 : (a0_1 != a1_1) = true := c7
        (try (have c7b1 : decide (a0_1 = a1_1) = false := by simpa using c7))
        (try (have c7b2 : (a0_1 == a1_1) = false := by simpa using c7))
        (try (have c7b3 : ¬ (a0_1 = a1_1) := by simpa using c7))
        clear c7
        have H' := Aside0.mk H
        clear H
        have hnb8 := NB351_352.out
        have hnc8 := NB352_351.out
        have hcz9_0 : w5.cell? ⟨gb351, 0, none⟩ = some (.int .i64 a0_0) := (blk_cell BK351.out 0).trans rfl
        have hcz9_1 : w5.cell? ⟨gb351, 1, none⟩ = some (.bool a0_1) := (blk_cell BK351.out 1).trans rfl
        have hcz9_2 : w5.cell? ⟨gb351, 2, none⟩ = some (.int .i64 a0_2) := (blk_cell BK351.out 2).trans rfl
        have hcz9_3 : w5.cell? ⟨gb351, 3, none⟩ = some (.int .i64 a0_3) := (blk_cell BK351.out 3).trans rfl
        have hcz9_4 : w5.cell? ⟨gb351, 4, none⟩ = some (.int .i64 a0_4) := (blk_cell BK351.out 4).trans rfl
        have hcz9_5 : w5.cell? ⟨gb351, 5, none⟩ = some (.int .i64 a0_5) := (blk_cell BK351.out 5).trans rfl
        have hcz9_6 : w5.cell? ⟨gb351, 6, none⟩ = some (.int .i64 a0_6) := (blk_cell BK351.out 6).trans rfl
        have hcz9_7 : w5.cell? ⟨gb351, 7, none⟩ = some (.int .i64 a0_7) := (blk_cell BK351.out 7).trans rfl
        have hcz9_8 : w5.cell? ⟨gb351, 8, none⟩ = some (.int .i64 a0_8) := (blk_cell BK351.out 8).trans rfl
        have hcz9_9 : w5.cell? ⟨gb351, 9, none⟩ = some (.bool a0_9) := (blk_cell BK351.out 9).trans rfl
        have hcz9_10 : w5.cell? ⟨gb351, 10, none⟩ = some (.bool a0_10) := (blk_cell BK351.out 10).trans rfl
        have hcz9_11 : w5.cell? ⟨gb351, 11, none⟩ = some (.int .i64 a0_11) := (blk_cell BK351.out 11).trans rfl
        have hcz9_12 : w5.cell? ⟨gb351, 12, none⟩ = some (.int .i64 a0_12) := (blk_cell BK351.out 12).trans rfl
        have hcz9_13 : w5.cell? ⟨gb351, 13, none⟩ = some (.int .i64 a0_13) := (blk_cell BK351.out 13).trans rfl
        have hcz9_14 : w5.cell? ⟨gb351, 14, none⟩ = some (.int .i64 a0_14) := (blk_cell BK351.out 14).trans rfl
        have hcz9_15 : w5.cell? ⟨gb351, 15, none⟩ = some (.int .i64 a0_15) := (blk_cell BK351.out 15).trans rfl
        have hcz9_16 : w5.cell? ⟨gb351, 16, none⟩ = some (.int .i64 a0_16) := (blk_cell BK351.out 16).trans rfl
        have hcz9_17 : w5.cell? ⟨gb351, 17, none⟩ = some (.slice A0_17 l0_17.length c0_17) := (blk_cell BK351.out 17).trans rfl
        have hcz9_18 : w5.cell? ⟨gb351, 18, none⟩ = some (.string a0_18) := (blk_cell BK351.out 18).trans rfl
        have hfz9_0 := blk_frozen BK351.out 0
        have hfz9_1 := blk_frozen BK351.out 1
        have hfz9_2 := blk_frozen BK351.out 2
        have hfz9_3 := blk_frozen BK351.out 3
        have hfz9_4 := blk_frozen BK351.out 4
        have hfz9_5 := blk_frozen BK351.out 5
        have hfz9_6 := blk_frozen BK351.out 6
        have hfz9_7 := blk_frozen BK351.out 7
        have hfz9_8 := blk_frozen BK351.out 8
        have hfz9_9 := blk_frozen BK351.out 9
        have hfz9_10 := blk_frozen BK351.out 10
        have hfz9_11 := blk_frozen BK351.out 11
        have hfz9_12 := blk_frozen BK351.out 12
        have hfz9_13 := blk_frozen BK351.out 13
        have hfz9_14 := blk_frozen BK351.out 14
        have hfz9_15 := blk_frozen BK351.out 15
        have hfz9_16 := blk_frozen BK351.out 16
        have hfz9_17 := blk_frozen BK351.out 17
        have hfz9_18 := blk_frozen BK351.out 18
        have hcz10_0 : w5.cell? ⟨gb352, 0, none⟩ = some (.int .i64 a1_0) := (blk_cell BK352.out 0).trans rfl
        have hcz10_1 : w5.cell? ⟨gb352, 1, none⟩ = some (.bool a1_1) := (blk_cell BK352.out 1).trans rfl
        have hcz10_2 : w5.cell? ⟨gb352, 2, none⟩ = some (.int .i64 a1_2) := (blk_cell BK352.out 2).trans rfl
        have hcz10_3 : w5.cell? ⟨gb352, 3, none⟩ = some (.int .i64 a1_3) := (blk_cell BK352.out 3).trans rfl
        have hcz10_4 : w5.cell? ⟨gb352, 4, none⟩ = some (.int .i64 a1_4) := (blk_cell BK352.out 4).trans rfl
        have hcz10_5 : w5.cell? ⟨gb352, 5, none⟩ = some (.int .i64 a1_5) := (blk_cell BK352.out 5).trans rfl
        have hcz10_6 : w5.cell? ⟨gb352, 6, none⟩ = some (.int .i64 a1_6) := (blk_cell BK352.out 6).trans rfl
        have hcz10_7 : w5.cell? ⟨gb352, 7, none⟩ = some (.int .i64 a1_7) := (blk_cell BK352.out 7).trans rfl
        have hcz10_8 : w5.cell? ⟨gb352, 8, none⟩ = some (.int .i64 a1_8) := (blk_cell BK352.out 8).trans rfl
        have hcz10_9 : w5.cell? ⟨gb352, 9, none⟩ = some (.bool a1_9) := (blk_cell BK352.out 9).trans rfl
        have hcz10_10 : w5.cell? ⟨gb352, 10, none⟩ = some (.bool a1_10) := (blk_cell BK352.out 10).trans rfl
        have hcz10_11 : w5.cell? ⟨gb352, 11, none⟩ = some (.int .i64 a1_11) := (blk_cell BK352.out 11).trans rfl
        have hcz10_12 : w5.cell? ⟨gb352, 12, none⟩ = some (.int .i64 a1_12) := (blk_cell BK352.out 12).trans rfl
        have hcz10_13 : w5.cell? ⟨gb352, 13, none⟩ = some (.int .i64 a1_13) := (blk_cell BK352.out 13).trans rfl
        have hcz10_14 : w5.cell? ⟨gb352, 14, none⟩ = some (.int .i64 a1_14) := (blk_cell BK352.out 14).trans rfl
        have hcz10_15 : w5.cell? ⟨gb352, 15, none⟩ = some (.int .i64 a1_15) := (blk_cell BK352.out 15).trans rfl
        have hcz10_16 : w5.cell? ⟨gb352, 16, none⟩ = some (.int .i64 a1_16) := (blk_cell BK352.out 16).trans rfl
        have hcz10_17 : w5.cell? ⟨gb352, 17, none⟩ = some (.slice A1_17 l1_17.length c1_17) := (blk_cell BK352.out 17).trans rfl
        have hcz10_18 : w5.cell? ⟨gb352, 18, none⟩ = some (.string a1_18) := (blk_cell BK352.out 18).trans rfl
        have hfz10_0 := blk_frozen BK352.out 0
        have hfz10_1 := blk_frozen BK352.out 1
        have hfz10_2 := blk_frozen BK352.out 2
        have hfz10_3 := blk_frozen BK352.out 3
        have hfz10_4 := blk_frozen BK352.out 4
        have hfz10_5 := blk_frozen BK352.out 5
        have hfz10_6 := blk_frozen BK352.out 6
        have hfz10_7 := blk_frozen BK352.out 7
        have hfz10_8 := blk_frozen BK352.out 8
        have hfz10_9 := blk_frozen BK352.out 9
        have hfz10_10 := blk_frozen BK352.out 10
        have hfz10_11 := blk_frozen BK352.out 11
        have hfz10_12 := blk_frozen BK352.out 12
        have hfz10_13 := blk_frozen BK352.out 13
        have hfz10_14 := blk_frozen BK352.out 14
        have hfz10_15 := blk_frozen BK352.out 15
        have hfz10_16 := blk_frozen BK352.out 16
        have hfz10_17 := blk_frozen BK352.out 17
        have hfz10_18 := blk_frozen BK352.out 18
        go_wp2
        repeat (go_quiet (fail); try go_wp2)
        go_meet
        case rel => exact ⟨_, (true), (by first | rfl | (simp; done) | (simp [*]; done)), H', ⟨by first | omega | exact Nat.le_refl _⟩, ⟨by (with_reducible repeat (first | refine blk_drewN ?_ _ | refine blk_drew ?_ | refine blk_alloc ?_ _)); exact BK351.out⟩, ⟨by (with_reducible repeat (first | refine blk_drewN ?_ _ | refine blk_drew ?_ | refine blk_alloc ?_ _)); exact BK352.out⟩, ⟨by repeat (first | (with_reducible first | exact HB.out | apply below_alloc | apply pw_below_drewN | apply below_drew1 | refine below_set ?_ GE351.out | refine below_set ?_ GE352.out) | exact HB.out)⟩⟩
      · rw [if_neg c7] at H
        have c7b0 : (a0_1 != a1_1) = false := by simpa using c7
        (try (have c7b1 : decide (a0_1 = a1_1) = true := by simpa using c7))
        (try (have c7b2 : (a0_1 == a1_1) = true := by simpa using c7))
        clear c7
        by_cases c11 : a0_2 = a1_2
        · rw [if_pos c11] at H
          have c11b0 : (a0_2 == a1_2) = true := beq_iff_eq.mpr c11
          have c11b1 : (a0_2 != a1_2) = false := bne_eq_false_iff_eq.mpr c11
          clear c11
          by_cases c12 : (!(a0_3 == a1_3) || (!(a0_4 == a1_4) || (!(a0_5 == a1_5) || (!(a0_6 == a1_6))))) = true
          · rw [if_pos c12] at H
            have c12b0 : (!(a0_3 == a1_3) || (!(a0_4 == a1_4) || (!(a0_5 == a1_5) || (!(a0_6 == a1_6))))) = true := c12
            clear c12
            have H' := Aside0.mk H
            clear H
            have hnb13 := NB351_352.out
            have hnc13 := NB352_351.out
            have hcz14_0 : w5.cell? ⟨gb351, 0, none⟩ = some (.int .i64 a0_0) := (blk_cell BK351.out 0).trans rfl
            have hcz14_1 : w5.cell? ⟨gb351, 1, none⟩ = some (.bool a0_1) := (blk_cell BK351.out 1).trans rfl
            have hcz14_2 : w5.cell? ⟨gb351, 2, none⟩ = some (.int .i64 a0_2) := (blk_cell BK351.out 2).trans rfl
            have hcz14_3 : w5.cell? ⟨gb351, 3, none⟩ = some (.int .i64 a0_3) := (blk_cell BK351.out 3).trans rfl
            have hcz14_4 : w5.cell? ⟨gb351, 4, none⟩ = some (.int .i64 a0_4) := (blk_cell BK351.out 4).trans rfl
            have hcz14_5 : w5.cell? ⟨gb351, 5, none⟩ = some (.int .i64 a0_5) := (blk_cell BK351.out 5).trans rfl
            have hcz14_6 : w5.cell? ⟨gb351, 6, none⟩ = some (.int .i64 a0_6) := (blk_cell BK351.out 6).trans rfl
            have hcz14_7 : w5.cell? ⟨gb351, 7, none⟩ = some (.int .i64 a0_7) := (blk_cell BK351.out 7).trans rfl
            have hcz14_8 : w5.cell? ⟨gb351, 8, none⟩ = some (.int .i64 a0_8) := (blk_cell BK351.out 8).trans rfl
            have hcz14_9 : w5.cell? ⟨gb351, 9, none⟩ = some (.bool a0_9) := (blk_cell BK351.out 9).trans rfl
            have hcz14_10 : w5.cell? ⟨gb351, 10, none⟩ = some (.bool a0_10) := (blk_cell BK351.out 10).trans rfl
            have hcz14_11 : w5.cell? ⟨gb351, 11, none⟩ = some (.int .i64 a0_11) := (blk_cell BK351.out 11).trans rfl
            have hcz14_12 : w5.cell? ⟨gb351, 12, none⟩ = some (.int .i64 a0_12) := (blk_cell BK351.out 12).trans rfl
            have hcz14_13 : w5.cell? ⟨gb351, 13, none⟩ = some (.int .i64 a0_13) := (blk_cell BK351.out 13).trans rfl
            have hcz14_14 : w5.cell? ⟨gb351, 14, none⟩ = some (.int .i64 a0_14) := (blk_cell BK351.out 14).trans rfl
            have hcz14_15 : w5.cell? ⟨gb351, 15, none⟩ = some (.int .i64 a0_15) := (blk_cell BK351.out 15).trans rfl
            have hcz14_16 : w5.cell? ⟨gb351, 16, none⟩ = some (.int .i64 a0_16) := (blk_cell BK351.out 16).trans rfl
            have hcz14_17 : w5.cell? ⟨gb351, 17, none⟩ = some (.slice A0_17 l0_17.length c0_17) := (blk_cell BK351.out 17).trans rfl
            have hcz14_18 : w5.cell? ⟨gb351, 18, none⟩ = some (.string a0_18) := (blk_cell BK351.out 18).trans rfl
            have hfz14_0 := blk_frozen BK351.out 0
            have hfz14_1 := blk_frozen BK351.out 1
            have hfz14_2 := blk_frozen BK351.out 2
            have hfz14_3 := blk_frozen BK351.out 3
            have hfz14_4 := blk_frozen BK351.out 4
            have hfz14_5 := blk_frozen BK351.out 5
            have hfz14_6 := blk_frozen BK351.out 6
            have hfz14_7 := blk_frozen BK351.out 7
            have hfz14_8 := blk_frozen BK351.out 8
            have hfz14_9 := blk_frozen BK351.out 9
            have hfz14_10 := blk_frozen BK351.out 10
            have hfz14_11 := blk_frozen BK351.out 11
            have hfz14_12 := blk_frozen BK351.out 12
            have hfz14_13 := blk_frozen BK351.out 13
            have hfz14_14 := blk_frozen BK351.out 14
            have hfz14_15 := blk_frozen BK351.out 15
            have hfz14_16 := blk_frozen BK351.out 16
            have hfz14_17 := blk_frozen BK351.out 17
            have hfz14_18 := blk_frozen BK351.out 18
            have hcz15_0 : w5.cell? ⟨gb352, 0, none⟩ = some (.int .i64 a1_0) := (blk_cell BK352.out 0).trans rfl
            have hcz15_1 : w5.cell? ⟨gb352, 1, none⟩ = some (.bool a1_1) := (blk_cell BK352.out 1).trans rfl
            have hcz15_2 : w5.cell? ⟨gb352, 2, none⟩ = some (.int .i64 a1_2) := (blk_cell BK352.out 2).trans rfl
            have hcz15_3 : w5.cell? ⟨gb352, 3, none⟩ = some (.int .i64 a1_3) := (blk_cell BK352.out 3).trans rfl
            have hcz15_4 : w5.cell? ⟨gb352, 4, none⟩ = some (.int .i64 a1_4) := (blk_cell BK352.out 4).trans rfl
            have hcz15_5 : w5.cell? ⟨gb352, 5, none⟩ = some (.int .i64 a1_5) := (blk_cell BK352.out 5).trans rfl
            have hcz15_6 : w5.cell? ⟨gb352, 6, none⟩ = some (.int .i64 a1_6) := (blk_cell BK352.out 6).trans rfl
            have hcz15_7 : w5.cell? ⟨gb352, 7, none⟩ = some (.int .i64 a1_7) := (blk_cell BK352.out 7).trans rfl
            have hcz15_8 : w5.cell? ⟨gb352, 8, none⟩ = some (.int .i64 a1_8) := (blk_cell BK352.out 8).trans rfl
            have hcz15_9 : w5.cell? ⟨gb352, 9, none⟩ = some (.bool a1_9) := (blk_cell BK352.out 9).trans rfl
            have hcz15_10 : w5.cell? ⟨gb352, 10, none⟩ = some (.bool a1_10) := (blk_cell BK352.out 10).trans rfl
            have hcz15_11 : w5.cell? ⟨gb352, 11, none⟩ = some (.int .i64 a1_11) := (blk_cell BK352.out 11).trans rfl
            have hcz15_12 : w5.cell? ⟨gb352, 12, none⟩ = some (.int .i64 a1_12) := (blk_cell BK352.out 12).trans rfl
            have hcz15_13 : w5.cell? ⟨gb352, 13, none⟩ = some (.int .i64 a1_13) := (blk_cell BK352.out 13).trans rfl
            have hcz15_14 : w5.cell? ⟨gb352, 14, none⟩ = some (.int .i64 a1_14) := (blk_cell BK352.out 14).trans rfl
            have hcz15_15 : w5.cell? ⟨gb352, 15, none⟩ = some (.int .i64 a1_15) := (blk_cell BK352.out 15).trans rfl
            have hcz15_16 : w5.cell? ⟨gb352, 16, none⟩ = some (.int .i64 a1_16) := (blk_cell BK352.out 16).trans rfl
            have hcz15_17 : w5.cell? ⟨gb352, 17, none⟩ = some (.slice A1_17 l1_17.length c1_17) := (blk_cell BK352.out 17).trans rfl
            have hcz15_18 : w5.cell? ⟨gb352, 18, none⟩ = some (.string a1_18) := (blk_cell BK352.out 18).trans rfl
            have hfz15_0 := blk_frozen BK352.out 0
            have hfz15_1 := blk_frozen BK352.out 1
            have hfz15_2 := blk_frozen BK352.out 2
            have hfz15_3 := blk_frozen BK352.out 3
            have hfz15_4 := blk_frozen BK352.out 4
            have hfz15_5 := blk_frozen BK352.out 5
            have hfz15_6 := blk_frozen BK352.out 6
            have hfz15_7 := blk_frozen BK352.out 7
            have hfz15_8 := blk_frozen BK352.out 8
            have hfz15_9 := blk_frozen BK352.out 9
            have hfz15_10 := blk_frozen BK352.out 10
            have hfz15_11 := blk_frozen BK352.out 11
            have hfz15_12 := blk_frozen BK352.out 12
            have hfz15_13 := blk_frozen BK352.out 13
            have hfz15_14 := blk_frozen BK352.out 14
            have hfz15_15 := blk_frozen BK352.out 15
            have hfz15_16 := blk_frozen BK352.out 16
            have hfz15_17 := blk_frozen BK352.out 17
            have hfz15_18 := blk_frozen BK352.out 18
            go_wp2
            repeat (go_quiet (fail); try go_wp2)
            go_meet
            case rel => exact ⟨_, (true), (by first | rfl | (simp; done) | (simp [*]; done)), H', ⟨by first | omega | exact Nat.le_refl _⟩, ⟨by (with_reducible repeat (first | refine blk_drewN ?_ _ | refine blk_drew ?_ | refine blk_alloc ?_ _)); exact BK351.out⟩, ⟨by (with_reducible repeat (first | refine blk_drewN ?_ _ | refine blk_drew ?_ | refine blk_alloc ?_ _)); exact BK352.out⟩, ⟨by repeat (first | (with_reducible first | exact HB.out | apply below_alloc | apply pw_below_drewN | apply below_drew1 | refine below_set ?_ GE351.out | refine below_set ?_ GE352.out) | exact HB.out)⟩⟩
          · rw [if_neg c12] at H
            have c12b0 : (!(a0_3 == a1_3) || (!(a0_4 == a1_4) || (!(a0_5 == a1_5) || (!(a0_6 == a1_6))))) = false := by simpa using c12
            clear c12
            by_cases c16 : (!(a0_7 == a1_7) || (!(a0_8 == a1_8) || (!(a0_9 == a1_9) || (!(a0_10 == a1_10) || (!(a0_11 == a1_11) || (!(a0_12 == a1_12) || (!(a0_13 == a1_13) || (!(a0_14 == a1_14) || (!(a0_15 == a1_15) || (!(a0_16 == a1_16))))))))))) = true
            · rw [if_pos c16] at H
              have c16b0 : (!(a0_7 == a1_7) || (!(a0_8 == a1_8) || (!(a0_9 == a1_9) || (!(a0_10 == a1_10) || (!(a0_11 == a1_11) || (!(a0_12 == a1_12) || (!(a0_13 == a1_13) || (!(a0_14 == a1_14) || (!(a0_15 == a1_15) || (!(a0_16 == a1_16))))))))))) = true := c16
              clear c16
              have H' := Aside0.mk H
              clear H
              have hnb17 := NB351_352.out
              have hnc17 := NB352_351.out
              have hcz18_0 : w5.cell? ⟨gb351, 0, none⟩ = some (.int .i64 a0_0) := (blk_cell BK351.out 0).trans rfl
              have hcz18_1 : w5.cell? ⟨gb351, 1, none⟩ = some (.bool a0_1) := (blk_cell BK351.out 1).trans rfl
              have hcz18_2 : w5.cell? ⟨gb351, 2, none⟩ = some (.int .i64 a0_2) := (blk_cell BK351.out 2).trans rfl
              have hcz18_3 : w5.cell? ⟨gb351, 3, none⟩ = some (.int .i64 a0_3) := (blk_cell BK351.out 3).trans rfl
              have hcz18_4 : w5.cell? ⟨gb351, 4, none⟩ = some (.int .i64 a0_4) := (blk_cell BK351.out 4).trans rfl
              have hcz18_5 : w5.cell? ⟨gb351, 5, none⟩ = some (.int .i64 a0_5) := (blk_cell BK351.out 5).trans rfl
              have hcz18_6 : w5.cell? ⟨gb351, 6, none⟩ = some (.int .i64 a0_6) := (blk_cell BK351.out 6).trans rfl
              have hcz18_7 : w5.cell? ⟨gb351, 7, none⟩ = some (.int .i64 a0_7) := (blk_cell BK351.out 7).trans rfl
              have hcz18_8 : w5.cell? ⟨gb351, 8, none⟩ = some (.int .i64 a0_8) := (blk_cell BK351.out 8).trans rfl
              have hcz18_9 : w5.cell? ⟨gb351, 9, none⟩ = some (.bool a0_9) := (blk_cell BK351.out 9).trans rfl
              have hcz18_10 : w5.cell? ⟨gb351, 10, none⟩ = some (.bool a0_10) := (blk_cell BK351.out 10).trans rfl
              have hcz18_11 : w5.cell? ⟨gb351, 11, none⟩ = some (.int .i64 a0_11) := (blk_cell BK351.out 11).trans rfl
              have hcz18_12 : w5.cell? ⟨gb351, 12, none⟩ = some (.int .i64 a0_12) := (blk_cell BK351.out 12).trans rfl
              have hcz18_13 : w5.cell? ⟨gb351, 13, none⟩ = some (.int .i64 a0_13) := (blk_cell BK351.out 13).trans rfl
              have hcz18_14 : w5.cell? ⟨gb351, 14, none⟩ = some (.int .i64 a0_14) := (blk_cell BK351.out 14).trans rfl
              have hcz18_15 : w5.cell? ⟨gb351, 15, none⟩ = some (.int .i64 a0_15) := (blk_cell BK351.out 15).trans rfl
              have hcz18_16 : w5.cell? ⟨gb351, 16, none⟩ = some (.int .i64 a0_16) := (blk_cell BK351.out 16).trans rfl
              have hcz18_17 : w5.cell? ⟨gb351, 17, none⟩ = some (.slice A0_17 l0_17.length c0_17) := (blk_cell BK351.out 17).trans rfl
              have hcz18_18 : w5.cell? ⟨gb351, 18, none⟩ = some (.string a0_18) := (blk_cell BK351.out 18).trans rfl
              have hfz18_0 := blk_frozen BK351.out 0
              have hfz18_1 := blk_frozen BK351.out 1
              have hfz18_2 := blk_frozen BK351.out 2
              have hfz18_3 := blk_frozen BK351.out 3
              have hfz18_4 := blk_frozen BK351.out 4
              have hfz18_5 := blk_frozen BK351.out 5
              have hfz18_6 := blk_frozen BK351.out 6
              have hfz18_7 := blk_frozen BK351.out 7
              have hfz18_8 := blk_frozen BK351.out 8
              have hfz18_9 := blk_frozen BK351.out 9
              have hfz18_10 := blk_frozen BK351.out 10
              have hfz18_11 := blk_frozen BK351.out 11
              have hfz18_12 := blk_frozen BK351.out 12
              have hfz18_13 := blk_frozen BK351.out 13
              have hfz18_14 := blk_frozen BK351.out 14
              have hfz18_15 := blk_frozen BK351.out 15
              have hfz18_16 := blk_frozen BK351.out 16
              have hfz18_17 := blk_frozen BK351.out 17
              have hfz18_18 := blk_frozen BK351.out 18
              have hcz19_0 : w5.cell? ⟨gb352, 0, none⟩ = some (.int .i64 a1_0) := (blk_cell BK352.out 0).trans rfl
              have hcz19_1 : w5.cell? ⟨gb352, 1, none⟩ = some (.bool a1_1) := (blk_cell BK352.out 1).trans rfl
              have hcz19_2 : w5.cell? ⟨gb352, 2, none⟩ = some (.int .i64 a1_2) := (blk_cell BK352.out 2).trans rfl
              have hcz19_3 : w5.cell? ⟨gb352, 3, none⟩ = some (.int .i64 a1_3) := (blk_cell BK352.out 3).trans rfl
              have hcz19_4 : w5.cell? ⟨gb352, 4, none⟩ = some (.int .i64 a1_4) := (blk_cell BK352.out 4).trans rfl
              have hcz19_5 : w5.cell? ⟨gb352, 5, none⟩ = some (.int .i64 a1_5) := (blk_cell BK352.out 5).trans rfl
              have hcz19_6 : w5.cell? ⟨gb352, 6, none⟩ = some (.int .i64 a1_6) := (blk_cell BK352.out 6).trans rfl
              have hcz19_7 : w5.cell? ⟨gb352, 7, none⟩ = some (.int .i64 a1_7) := (blk_cell BK352.out 7).trans rfl
              have hcz19_8 : w5.cell? ⟨gb352, 8, none⟩ = some (.int .i64 a1_8) := (blk_cell BK352.out 8).trans rfl
              have hcz19_9 : w5.cell? ⟨gb352, 9, none⟩ = some (.bool a1_9) := (blk_cell BK352.out 9).trans rfl
              have hcz19_10 : w5.cell? ⟨gb352, 10, none⟩ = some (.bool a1_10) := (blk_cell BK352.out 10).trans rfl
              have hcz19_11 : w5.cell? ⟨gb352, 11, none⟩ = some (.int .i64 a1_11) := (blk_cell BK352.out 11).trans rfl
              have hcz19_12 : w5.cell? ⟨gb352, 12, none⟩ = some (.int .i64 a1_12) := (blk_cell BK352.out 12).trans rfl
              have hcz19_13 : w5.cell? ⟨gb352, 13, none⟩ = some (.int .i64 a1_13) := (blk_cell BK352.out 13).trans rfl
              have hcz19_14 : w5.cell? ⟨gb352, 14, none⟩ = some (.int .i64 a1_14) := (blk_cell BK352.out 14).trans rfl
              have hcz19_15 : w5.cell? ⟨gb352, 15, none⟩ = some (.int .i64 a1_15) := (blk_cell BK352.out 15).trans rfl
              have hcz19_16 : w5.cell? ⟨gb352, 16, none⟩ = some (.int .i64 a1_16) := (blk_cell BK352.out 16).trans rfl
              have hcz19_17 : w5.cell? ⟨gb352, 17, none⟩ = some (.slice A1_17 l1_17.length c1_17) := (blk_cell BK352.out 17).trans rfl
              have hcz19_18 : w5.cell? ⟨gb352, 18, none⟩ = some (.string a1_18) := (blk_cell BK352.out 18).trans rfl
              have hfz19_0 := blk_frozen BK352.out 0
              have hfz19_1 := blk_frozen BK352.out 1
              have hfz19_2 := blk_frozen BK352.out 2
              have hfz19_3 := blk_frozen BK352.out 3
              have hfz19_4 := blk_frozen BK352.out 4
              have hfz19_5 := blk_frozen BK352.out 5
              have hfz19_6 := blk_frozen BK352.out 6
              have hfz19_7 := blk_frozen BK352.out 7
              have hfz19_8 := blk_frozen BK352.out 8
              have hfz19_9 := blk_frozen BK352.out 9
              have hfz19_10 := blk_frozen BK352.out 10
              have hfz19_11 := blk_frozen BK352.out 11
              have hfz19_12 := blk_frozen BK352.out 12
              have hfz19_13 := blk_frozen BK352.out 13
              have hfz19_14 := blk_frozen BK352.out 14
              have hfz19_15 := blk_frozen BK352.out 15
              have hfz19_16 := blk_frozen BK352.out 16
              have hfz19_17 := blk_frozen BK352.out 17
              have hfz19_18 := blk_frozen BK352.out 18
              go_wp2
              repeat (go_quiet (fail); try go_wp2)
              go_meet
              case rel => exact ⟨_, (true), (by first | rfl | (simp; done) | (simp [*]; done)), H', ⟨by first | omega | exact Nat.le_refl _⟩, ⟨by (with_reducible repeat (first | refine blk_drewN ?_ _ | refine blk_drew ?_ | refine blk_alloc ?_ _)); exact BK351.out⟩, ⟨by (with_reducible repeat (first | refine blk_drewN ?_ _ | refine blk_drew ?_ | refine blk_alloc ?_ _)); exact BK352.out⟩, ⟨by repeat (first | (with_reducible first | exact HB.out | apply below_alloc | apply pw_below_drewN | apply below_drew1 | refine below_set ?_ GE351.out | refine below_set ?_ GE352.out) | exact HB.out)⟩⟩
            · rw [if_neg c16] at H
              have c16b0 : (!(a0_7 == a1_7) || (!(a0_8 == a1_8) || (!(a0_9 == a1_9) || (!(a0_10 == a1_10) || (!(a0_11 == a1_11) || (!(a0_12 == a1_12) || (!(a0_13 == a1_13) || (!(a0_14 == a1_14) || (!(a0_15 == a1_15) || (!(a0_16 == a1_16))))))))))) = false := by simpa using c16
              clear c16
              by_cases c20 : a0_18.toList = a1_18.toList
              · rw [if_pos c20] at H
                have c20b0 : (a0_18.toList == a1_18.toList) = true := beq_iff_eq.mpr c20
                have c20b1 : (a0_18.toList != a1_18.toList) = false := bne_eq_false_iff_eq.mpr c20
                clear c20
                have H' := Aside0.mk H
                clear H
                have hnb21 := NB351_352.out
                have hnc21 := NB352_351.out
                have hcz22_0 : w5.cell? ⟨gb351, 0, none⟩ = some (.int .i64 a0_0) := (blk_cell BK351.out 0).trans rfl
                have hcz22_1 : w5.cell? ⟨gb351, 1, none⟩ = some (.bool a0_1) := (blk_cell BK351.out 1).trans rfl
                have hcz22_2 : w5.cell? ⟨gb351, 2, none⟩ = some (.int .i64 a0_2) := (blk_cell BK351.out 2).trans rfl
                have hcz22_3 : w5.cell? ⟨gb351, 3, none⟩ = some (.int .i64 a0_3) := (blk_cell BK351.out 3).trans rfl
                have hcz22_4 : w5.cell? ⟨gb351, 4, none⟩ = some (.int .i64 a0_4) := (blk_cell BK351.out 4).trans rfl
                have hcz22_5 : w5.cell? ⟨gb351, 5, none⟩ = some (.int .i64 a0_5) := (blk_cell BK351.out 5).trans rfl
                have hcz22_6 : w5.cell? ⟨gb351, 6, none⟩ = some (.int .i64 a0_6) := (blk_cell BK351.out 6).trans rfl
                have hcz22_7 : w5.cell? ⟨gb351, 7, none⟩ = some (.int .i64 a0_7) := (blk_cell BK351.out 7).trans rfl
                have hcz22_8 : w5.cell? ⟨gb351, 8, none⟩ = some (.int .i64 a0_8) := (blk_cell BK351.out 8).trans rfl
                have hcz22_9 : w5.cell? ⟨gb351, 9, none⟩ = some (.bool a0_9) := (blk_cell BK351.out 9).trans rfl
                have hcz22_10 : w5.cell? ⟨gb351, 10, none⟩ = some (.bool a0_10) := (blk_cell BK351.out 10).trans rfl
                have hcz22_11 : w5.cell? ⟨gb351, 11, none⟩ = some (.int .i64 a0_11) := (blk_cell BK351.out 11).trans rfl
                have hcz22_12 : w5.cell? ⟨gb351, 12, none⟩ = some (.int .i64 a0_12) := (blk_cell BK351.out 12).trans rfl
                have hcz22_13 : w5.cell? ⟨gb351, 13, none⟩ = some (.int .i64 a0_13) := (blk_cell BK351.out 13).trans rfl
                have hcz22_14 : w5.cell? ⟨gb351, 14, none⟩ = some (.int .i64 a0_14) := (blk_cell BK351.out 14).trans rfl
                have hcz22_15 : w5.cell? ⟨gb351, 15, none⟩ = some (.int .i64 a0_15) := (blk_cell BK351.out 15).trans rfl
                have hcz22_16 : w5.cell? ⟨gb351, 16, none⟩ = some (.int .i64 a0_16) := (blk_cell BK351.out 16).trans rfl
                have hcz22_17 : w5.cell? ⟨gb351, 17, none⟩ = some (.slice A0_17 l0_17.length c0_17) := (blk_cell BK351.out 17).trans rfl
                have hcz22_18 : w5.cell? ⟨gb351, 18, none⟩ = some (.string a0_18) := (blk_cell BK351.out 18).trans rfl
                have hfz22_0 := blk_frozen BK351.out 0
                have hfz22_1 := blk_frozen BK351.out 1
                have hfz22_2 := blk_frozen BK351.out 2
                have hfz22_3 := blk_frozen BK351.out 3
                have hfz22_4 := blk_frozen BK351.out 4
                have hfz22_5 := blk_frozen BK351.out 5
                have hfz22_6 := blk_frozen BK351.out 6
                have hfz22_7 := blk_frozen BK351.out 7
                have hfz22_8 := blk_frozen BK351.out 8
                have hfz22_9 := blk_frozen BK351.out 9
                have hfz22_10 := blk_frozen BK351.out 10
                have hfz22_11 := blk_frozen BK351.out 11
                have hfz22_12 := blk_frozen BK351.out 12
                have hfz22_13 := blk_frozen BK351.out 13
                have hfz22_14 := blk_frozen BK351.out 14
                have hfz22_15 := blk_frozen BK351.out 15
                have hfz22_16 := blk_frozen BK351.out 16
                have hfz22_17 := blk_frozen BK351.out 17
                have hfz22_18 := blk_frozen BK351.out 18
                have hcz23_0 : w5.cell? ⟨gb352, 0, none⟩ = some (.int .i64 a1_0) := (blk_cell BK352.out 0).trans rfl
                have hcz23_1 : w5.cell? ⟨gb352, 1, none⟩ = some (.bool a1_1) := (blk_cell BK352.out 1).trans rfl
                have hcz23_2 : w5.cell? ⟨gb352, 2, none⟩ = some (.int .i64 a1_2) := (blk_cell BK352.out 2).trans rfl
                have hcz23_3 : w5.cell? ⟨gb352, 3, none⟩ = some (.int .i64 a1_3) := (blk_cell BK352.out 3).trans rfl
                have hcz23_4 : w5.cell? ⟨gb352, 4, none⟩ = some (.int .i64 a1_4) := (blk_cell BK352.out 4).trans rfl
                have hcz23_5 : w5.cell? ⟨gb352, 5, none⟩ = some (.int .i64 a1_5) := (blk_cell BK352.out 5).trans rfl
                have hcz23_6 : w5.cell? ⟨gb352, 6, none⟩ = some (.int .i64 a1_6) := (blk_cell BK352.out 6).trans rfl
                have hcz23_7 : w5.cell? ⟨gb352, 7, none⟩ = some (.int .i64 a1_7) := (blk_cell BK352.out 7).trans rfl
                have hcz23_8 : w5.cell? ⟨gb352, 8, none⟩ = some (.int .i64 a1_8) := (blk_cell BK352.out 8).trans rfl
                have hcz23_9 : w5.cell? ⟨gb352, 9, none⟩ = some (.bool a1_9) := (blk_cell BK352.out 9).trans rfl
                have hcz23_10 : w5.cell? ⟨gb352, 10, none⟩ = some (.bool a1_10) := (blk_cell BK352.out 10).trans rfl
                have hcz23_11 : w5.cell? ⟨gb352, 11, none⟩ = some (.int .i64 a1_11) := (blk_cell BK352.out 11).trans rfl
                have hcz23_12 : w5.cell? ⟨gb352, 12, none⟩ = some (.int .i64 a1_12) := (blk_cell BK352.out 12).trans rfl
                have hcz23_13 : w5.cell? ⟨gb352, 13, none⟩ = some (.int .i64 a1_13) := (blk_cell BK352.out 13).trans rfl
                have hcz23_14 : w5.cell? ⟨gb352, 14, none⟩ = some (.int .i64 a1_14) := (blk_cell BK352.out 14).trans rfl
                have hcz23_15 : w5.cell? ⟨gb352, 15, none⟩ = some (.int .i64 a1_15) := (blk_cell BK352.out 15).trans rfl
                have hcz23_16 : w5.cell? ⟨gb352, 16, none⟩ = some (.int .i64 a1_16) := (blk_cell BK352.out 16).trans rfl
                have hcz23_17 : w5.cell? ⟨gb352, 17, none⟩ = some (.slice A1_17 l1_17.length c1_17) := (blk_cell BK352.out 17).trans rfl
                have hcz23_18 : w5.cell? ⟨gb352, 18, none⟩ = some (.string a1_18) := (blk_cell BK352.out 18).trans rfl
                have hfz23_0 := blk_frozen BK352.out 0
                have hfz23_1 := blk_frozen BK352.out 1
                have hfz23_2 := blk_frozen BK352.out 2
                have hfz23_3 := blk_frozen BK352.out 3
                have hfz23_4 := blk_frozen BK352.out 4
                have hfz23_5 := blk_frozen BK352.out 5
                have hfz23_6 := blk_frozen BK352.out 6
                have hfz23_7 := blk_frozen BK352.out 7
                have hfz23_8 := blk_frozen BK352.out 8
                have hfz23_9 := blk_frozen BK352.out 9
                have hfz23_10 := blk_frozen BK352.out 10
                have hfz23_11 := blk_frozen BK352.out 11
                have hfz23_12 := blk_frozen BK352.out 12
                have hfz23_13 := blk_frozen BK352.out 13
                have hfz23_14 := blk_frozen BK352.out 14
                have hfz23_15 := blk_frozen BK352.out 15
                have hfz23_16 := blk_frozen BK352.out 16
                have hfz23_17 := blk_frozen BK352.out 17
                have hfz23_18 := blk_frozen BK352.out 18
                go_wp2
                repeat (go_quiet (fail); try go_wp2)
                go_meet
                case rel => exact ⟨_, (((l0_17.length : Int) != (l1_17.length : Int))), (by first | rfl | (simp; done) | (simp [*]; done)), H', ⟨by first | omega | exact Nat.le_refl _⟩, ⟨by (with_reducible repeat (first | refine blk_drewN ?_ _ | refine blk_drew ?_ | refine blk_alloc ?_ _)); exact BK351.out⟩, ⟨by (with_reducible repeat (first | refine blk_drewN ?_ _ | refine blk_drew ?_ | refine blk_alloc ?_ _)); exact BK352.out⟩, ⟨by repeat (first | (with_reducible first | exact HB.out | apply below_alloc | apply pw_below_drewN | apply below_drew1 | refine below_set ?_ GE351.out | refine below_set ?_ GE352.out) | exact HB.out)⟩⟩
              · rw [if_neg c20] at H
                have c20b0 : (a0_18.toList == a1_18.toList) = false := beq_eq_false_iff_ne.mpr c20
                have c20b1 : (a0_18.toList != a1_18.toList) = true := bne_iff_ne.mpr c20
                have H' := Aside0.mk H
                clear H
                have hnb24 := NB351_352.out
                have hnc24 := NB352_351.out
                have hcz25_0 : w5.cell? ⟨gb351, 0, none⟩ = some (.int .i64 a0_0) := (blk_cell BK351.out 0).trans rfl
                have hcz25_1 : w5.cell? ⟨gb351, 1, none⟩ = some (.bool a0_1) := (blk_cell BK351.out 1).trans rfl
                have hcz25_2 : w5.cell? ⟨gb351, 2, none⟩ = some (.int .i64 a0_2) := (blk_cell BK351.out 2).trans rfl
                have hcz25_3 : w5.cell? ⟨gb351, 3, none⟩ = some (.int .i64 a0_3) := (blk_cell BK351.out 3).trans rfl
                have hcz25_4 : w5.cell? ⟨gb351, 4, none⟩ = some (.int .i64 a0_4) := (blk_cell BK351.out 4).trans rfl
                have hcz25_5 : w5.cell? ⟨gb351, 5, none⟩ = some (.int .i64 a0_5) := (blk_cell BK351.out 5).trans rfl
                have hcz25_6 : w5.cell? ⟨gb351, 6, none⟩ = some (.int .i64 a0_6) := (blk_cell BK351.out 6).trans rfl
                have hcz25_7 : w5.cell? ⟨gb351, 7, none⟩ = some (.int .i64 a0_7) := (blk_cell BK351.out 7).trans rfl
                have hcz25_8 : w5.cell? ⟨gb351, 8, none⟩ = some (.int .i64 a0_8) := (blk_cell BK351.out 8).trans rfl
                have hcz25_9 : w5.cell? ⟨gb351, 9, none⟩ = some (.bool a0_9) := (blk_cell BK351.out 9).trans rfl
                have hcz25_10 : w5.cell? ⟨gb351, 10, none⟩ = some (.bool a0_10) := (blk_cell BK351.out 10).trans rfl
                have hcz25_11 : w5.cell? ⟨gb351, 11, none⟩ = some (.int .i64 a0_11) := (blk_cell BK351.out 11).trans rfl
                have hcz25_12 : w5.cell? ⟨gb351, 12, none⟩ = some (.int .i64 a0_12) := (blk_cell BK351.out 12).trans rfl
                have hcz25_13 : w5.cell? ⟨gb351, 13, none⟩ = some (.int .i64 a0_13) := (blk_cell BK351.out 13).trans rfl
                have hcz25_14 : w5.cell? ⟨gb351, 14, none⟩ = some (.int .i64 a0_14) := (blk_cell BK351.out 14).trans rfl
                have hcz25_15 : w5.cell? ⟨gb351, 15, none⟩ = some (.int .i64 a0_15) := (blk_cell BK351.out 15).trans rfl
                have hcz25_16 : w5.cell? ⟨gb351, 16, none⟩ = some (.int .i64 a0_16) := (blk_cell BK351.out 16).trans rfl
                have hcz25_17 : w5.cell? ⟨gb351, 17, none⟩ = some (.slice A0_17 l0_17.length c0_17) := (blk_cell BK351.out 17).trans rfl
                have hcz25_18 : w5.cell? ⟨gb351, 18, none⟩ = some (.string a0_18) := (blk_cell BK351.out 18).trans rfl
                have hfz25_0 := blk_frozen BK351.out 0
                have hfz25_1 := blk_frozen BK351.out 1
                have hfz25_2 := blk_frozen BK351.out 2
                have hfz25_3 := blk_frozen BK351.out 3
                have hfz25_4 := blk_frozen BK351.out 4
                have hfz25_5 := blk_frozen BK351.out 5
                have hfz25_6 := blk_frozen BK351.out 6
                have hfz25_7 := blk_frozen BK351.out 7
                have hfz25_8 := blk_frozen BK351.out 8
                have hfz25_9 := blk_frozen BK351.out 9
                have hfz25_10 := blk_frozen BK351.out 10
                have hfz25_11 := blk_frozen BK351.out 11
                have hfz25_12 := blk_frozen BK351.out 12
                have hfz25_13 := blk_frozen BK351.out 13
                have hfz25_14 := blk_frozen BK351.out 14
                have hfz25_15 := blk_frozen BK351.out 15
                have hfz25_16 := blk_frozen BK351.out 16
                have hfz25_17 := blk_frozen BK351.out 17
                have hfz25_18 := blk_frozen BK351.out 18
                have hcz26_0 : w5.cell? ⟨gb352, 0, none⟩ = some (.int .i64 a1_0) := (blk_cell BK352.out 0).trans rfl
                have hcz26_1 : w5.cell? ⟨gb352, 1, none⟩ = some (.bool a1_1) := (blk_cell BK352.out 1).trans rfl
                have hcz26_2 : w5.cell? ⟨gb352, 2, none⟩ = some (.int .i64 a1_2) := (blk_cell BK352.out 2).trans rfl
                have hcz26_3 : w5.cell? ⟨gb352, 3, none⟩ = some (.int .i64 a1_3) := (blk_cell BK352.out 3).trans rfl
                have hcz26_4 : w5.cell? ⟨gb352, 4, none⟩ = some (.int .i64 a1_4) := (blk_cell BK352.out 4).trans rfl
                have hcz26_5 : w5.cell? ⟨gb352, 5, none⟩ = some (.int .i64 a1_5) := (blk_cell BK352.out 5).trans rfl
                have hcz26_6 : w5.cell? ⟨gb352, 6, none⟩ = some (.int .i64 a1_6) := (blk_cell BK352.out 6).trans rfl
                have hcz26_7 : w5.cell? ⟨gb352, 7, none⟩ = some (.int .i64 a1_7) := (blk_cell BK352.out 7).trans rfl
                have hcz26_8 : w5.cell? ⟨gb352, 8, none⟩ = some (.int .i64 a1_8) := (blk_cell BK352.out 8).trans rfl
                have hcz26_9 : w5.cell? ⟨gb352, 9, none⟩ = some (.bool a1_9) := (blk_cell BK352.out 9).trans rfl
                have hcz26_10 : w5.cell? ⟨gb352, 10, none⟩ = some (.bool a1_10) := (blk_cell BK352.out 10).trans rfl
                have hcz26_11 : w5.cell? ⟨gb352, 11, none⟩ = some (.int .i64 a1_11) := (blk_cell BK352.out 11).trans rfl
                have hcz26_12 : w5.cell? ⟨gb352, 12, none⟩ = some (.int .i64 a1_12) := (blk_cell BK352.out 12).trans rfl
                have hcz26_13 : w5.cell? ⟨gb352, 13, none⟩ = some (.int .i64 a1_13) := (blk_cell BK352.out 13).trans rfl
                have hcz26_14 : w5.cell? ⟨gb352, 14, none⟩ = some (.int .i64 a1_14) := (blk_cell BK352.out 14).trans rfl
                have hcz26_15 : w5.cell? ⟨gb352, 15, none⟩ = some (.int .i64 a1_15) := (blk_cell BK352.out 15).trans rfl
                have hcz26_16 : w5.cell? ⟨gb352, 16, none⟩ = some (.int .i64 a1_16) := (blk_cell BK352.out 16).trans rfl
                have hcz26_17 : w5.cell? ⟨gb352, 17, none⟩ = some (.slice A1_17 l1_17.length c1_17) := (blk_cell BK352.out 17).trans rfl
                have hcz26_18 : w5.cell? ⟨gb352, 18, none⟩ = some (.string a1_18) := (blk_cell BK352.out 18).trans rfl
                have hfz26_0 := blk_frozen BK352.out 0
                have hfz26_1 := blk_frozen BK352.out 1
                have hfz26_2 := blk_frozen BK352.out 2
                have hfz26_3 := blk_frozen BK352.out 3
                have hfz26_4 := blk_frozen BK352.out 4
                have hfz26_5 := blk_frozen BK352.out 5
                have hfz26_6 := blk_frozen BK352.out 6
                have hfz26_7 := blk_frozen BK352.out 7
                have hfz26_8 := blk_frozen BK352.out 8
                have hfz26_9 := blk_frozen BK352.out 9
                have hfz26_10 := blk_frozen BK352.out 10
                have hfz26_11 := blk_frozen BK352.out 11
                have hfz26_12 := blk_frozen BK352.out 12
                have hfz26_13 := blk_frozen BK352.out 13
                have hfz26_14 := blk_frozen BK352.out 14
                have hfz26_15 := blk_frozen BK352.out 15
                have hfz26_16 := blk_frozen BK352.out 16
                have hfz26_17 := blk_frozen BK352.out 17
                have hfz26_18 := blk_frozen BK352.out 18
                go_wp2
                repeat (go_quiet (fail); try go_wp2)
                go_meet
                case rel => exact ⟨_, (true), (by first | rfl | (simp; done) | (simp [*]; done)), H', ⟨by first | omega | exact Nat.le_refl _⟩, ⟨by (with_reducible repeat (first | refine blk_drewN ?_ _ | refine blk_drew ?_ | refine blk_alloc ?_ _)); exact BK351.out⟩, ⟨by (with_reducible repeat (first | refine blk_drewN ?_ _ | refine blk_drew ?_ | refine blk_alloc ?_ _)); exact BK352.out⟩, ⟨by repeat (first | (with_reducible first | exact HB.out | apply below_alloc | apply pw_below_drewN | apply below_drew1 | refine below_set ?_ GE351.out | refine below_set ?_ GE352.out) | exact HB.out)⟩⟩
        · rw [if_neg c11] at H
          have c11b0 : (a0_2 == a1_2) = false := beq_eq_false_iff_ne.mpr c11
          have c11b1 : (a0_2 != a1_2) = true := bne_iff_ne.mpr c11
          have H' := Aside0.mk H
          clear H
          have hnb27 := NB351_352.out
          have hnc27 := NB352_351.out
          have hcz28_0 : w5.cell? ⟨gb351, 0, none⟩ = some (.int .i64 a0_0) := (blk_cell BK351.out 0).trans rfl
          have hcz28_1 : w5.cell? ⟨gb351, 1, none⟩ = some (.bool a0_1) := (blk_cell BK351.out 1).trans rfl
          have hcz28_2 : w5.cell? ⟨gb351, 2, none⟩ = some (.int .i64 a0_2) := (blk_cell BK351.out 2).trans rfl
          have hcz28_3 : w5.cell? ⟨gb351, 3, none⟩ = some (.int .i64 a0_3) := (blk_cell BK351.out 3).trans rfl
          have hcz28_4 : w5.cell? ⟨gb351, 4, none⟩ = some (.int .i64 a0_4) := (blk_cell BK351.out 4).trans rfl
          have hcz28_5 : w5.cell? ⟨gb351, 5, none⟩ = some (.int .i64 a0_5) := (blk_cell BK351.out 5).trans rfl
          have hcz28_6 : w5.cell? ⟨gb351, 6, none⟩ = some (.int .i64 a0_6) := (blk_cell BK351.out 6).trans rfl
          have hcz28_7 : w5.cell? ⟨gb351, 7, none⟩ = some (.int .i64 a0_7) := (blk_cell BK351.out 7).trans rfl
          have hcz28_8 : w5.cell? ⟨gb351, 8, none⟩ = some (.int .i64 a0_8) := (blk_cell BK351.out 8).trans rfl
          have hcz28_9 : w5.cell? ⟨gb351, 9, none⟩ = some (.bool a0_9) := (blk_cell BK351.out 9).trans rfl
          have hcz28_10 : w5.cell? ⟨gb351, 10, none⟩ = some (.bool a0_10) := (blk_cell BK351.out 10).trans rfl
          have hcz28_11 : w5.cell? ⟨gb351, 11, none⟩ = some (.int .i64 a0_11) := (blk_cell BK351.out 11).trans rfl
          have hcz28_12 : w5.cell? ⟨gb351, 12, none⟩ = some (.int .i64 a0_12) := (blk_cell BK351.out 12).trans rfl
          have hcz28_13 : w5.cell? ⟨gb351, 13, none⟩ = some (.int .i64 a0_13) := (blk_cell BK351.out 13).trans rfl
          have hcz28_14 : w5.cell? ⟨gb351, 14, none⟩ = some (.int .i64 a0_14) := (blk_cell BK351.out 14).trans rfl
          have hcz28_15 : w5.cell? ⟨gb351, 15, none⟩ = some (.int .i64 a0_15) := (blk_cell BK351.out 15).trans rfl
          have hcz28_16 : w5.cell? ⟨gb351, 16, none⟩ = some (.int .i64 a0_16) := (blk_cell BK351.out 16).trans rfl
          have hcz28_17 : w5.cell? ⟨gb351, 17, none⟩ = some (.slice A0_17 l0_17.length c0_17) := (blk_cell BK351.out 17).trans rfl
          have hcz28_18 : w5.cell? ⟨gb351, 18, none⟩ = some (.string a0_18) := (blk_cell BK351.out 18).trans rfl
          have hfz28_0 := blk_frozen BK351.out 0
          have hfz28_1 := blk_frozen BK351.out 1
          have hfz28_2 := blk_frozen BK351.out 2
          have hfz28_3 := blk_frozen BK351.out 3
          have hfz28_4 := blk_frozen BK351.out 4
          have hfz28_5 := blk_frozen BK351.out 5
          have hfz28_6 := blk_frozen BK351.out 6
          have hfz28_7 := blk_frozen BK351.out 7
          have hfz28_8 := blk_frozen BK351.out 8
          have hfz28_9 := blk_frozen BK351.out 9
          have hfz28_10 := blk_frozen BK351.out 10
          have hfz28_11 := blk_frozen BK351.out 11
          have hfz28_12 := blk_frozen BK351.out 12
          have hfz28_13 := blk_frozen BK351.out 13
          have hfz28_14 := blk_frozen BK351.out 14
          have hfz28_15 := blk_frozen BK351.out 15
          have hfz28_16 := blk_frozen BK351.out 16
          have hfz28_17 := blk_frozen BK351.out 17
          have hfz28_18 := blk_frozen BK351.out 18
          have hcz29_0 : w5.cell? ⟨gb352, 0, none⟩ = some (.int .i64 a1_0) := (blk_cell BK352.out 0).trans rfl
          have hcz29_1 : w5.cell? ⟨gb352, 1, none⟩ = some (.bool a1_1) := (blk_cell BK352.out 1).trans rfl
          have hcz29_2 : w5.cell? ⟨gb352, 2, none⟩ = some (.int .i64 a1_2) := (blk_cell BK352.out 2).trans rfl
          have hcz29_3 : w5.cell? ⟨gb352, 3, none⟩ = some (.int .i64 a1_3) := (blk_cell BK352.out 3).trans rfl
          have hcz29_4 : w5.cell? ⟨gb352, 4, none⟩ = some (.int .i64 a1_4) := (blk_cell BK352.out 4).trans rfl
          have hcz29_5 : w5.cell? ⟨gb352, 5, none⟩ = some (.int .i64 a1_5) := (blk_cell BK352.out 5).trans rfl
          have hcz29_6 : w5.cell? ⟨gb352, 6, none⟩ = some (.int .i64 a1_6) := (blk_cell BK352.out 6).trans rfl
          have hcz29_7 : w5.cell? ⟨gb352, 7, none⟩ = some (.int .i64 a1_7) := (blk_cell BK352.out 7).trans rfl
          have hcz29_8 : w5.cell? ⟨gb352, 8, none⟩ = some (.int .i64 a1_8) := (blk_cell BK352.out 8).trans rfl
          have hcz29_9 : w5.cell? ⟨gb352, 9, none⟩ = some (.bool a1_9) := (blk_cell BK352.out 9).trans rfl
          have hcz29_10 : w5.cell? ⟨gb352, 10, none⟩ = some (.bool a1_10) := (blk_cell BK352.out 10).trans rfl
          have hcz29_11 : w5.cell? ⟨gb352, 11, none⟩ = some (.int .i64 a1_11) := (blk_cell BK352.out 11).trans rfl
          have hcz29_12 : w5.cell? ⟨gb352, 12, none⟩ = some (.int .i64 a1_12) := (blk_cell BK352.out 12).trans rfl
          have hcz29_13 : w5.cell? ⟨gb352, 13, none⟩ = some (.int .i64 a1_13) := (blk_cell BK352.out 13).trans rfl
          have hcz29_14 : w5.cell? ⟨gb352, 14, none⟩ = some (.int .i64 a1_14) := (blk_cell BK352.out 14).trans rfl
          have hcz29_15 : w5.cell? ⟨gb352, 15, none⟩ = some (.int .i64 a1_15) := (blk_cell BK352.out 15).trans rfl
          have hcz29_16 : w5.cell? ⟨gb352, 16, none⟩ = some (.int .i64 a1_16) := (blk_cell BK352.out 16).trans rfl
          have hcz29_17 : w5.cell? ⟨gb352, 17, none⟩ = some (.slice A1_17 l1_17.length c1_17) := (blk_cell BK352.out 17).trans rfl
          have hcz29_18 : w5.cell? ⟨gb352, 18, none⟩ = some (.string a1_18) := (blk_cell BK352.out 18).trans rfl
          have hfz29_0 := blk_frozen BK352.out 0
          have hfz29_1 := blk_frozen BK352.out 1
          have hfz29_2 := blk_frozen BK352.out 2
          have hfz29_3 := blk_frozen BK352.out 3
          have hfz29_4 := blk_frozen BK352.out 4
          have hfz29_5 := blk_frozen BK352.out 5
          have hfz29_6 := blk_frozen BK352.out 6
          have hfz29_7 := blk_frozen BK352.out 7
          have hfz29_8 := blk_frozen BK352.out 8
          have hfz29_9 := blk_frozen BK352.out 9
          have hfz29_10 := blk_frozen BK352.out 10
          have hfz29_11 := blk_frozen BK352.out 11
          have hfz29_12 := blk_frozen BK352.out 12
          have hfz29_13 := blk_frozen BK352.out 13
          have hfz29_14 := blk_frozen BK352.out 14
          have hfz29_15 := blk_frozen BK352.out 15
          have hfz29_16 := blk_frozen BK352.out 16
          have hfz29_17 := blk_frozen BK352.out 17
          have hfz29_18 := blk_frozen BK352.out 18
          go_wp2
          repeat (go_quiet (fail); try go_wp2)
          go_meet
          case rel => exact ⟨_, (true), (by first | rfl | (simp; done) | (simp [*]; done)), H', ⟨by first | omega | exact Nat.le_refl _⟩, ⟨by (with_reducible repeat (first | refine blk_drewN ?_ _ | refine blk_drew ?_ | refine blk_alloc ?_ _)); exact BK351.out⟩, ⟨by (with_reducible repeat (first | refine blk_drewN ?_ _ | refine blk_drew ?_ | refine blk_alloc ?_ _)); exact BK352.out⟩, ⟨by repeat (first | (with_reducible first | exact HB.out | apply below_alloc | apply pw_below_drewN | apply below_drew1 | refine below_set ?_ GE351.out | refine below_set ?_ GE352.out) | exact HB.out)⟩⟩
    · rw [if_neg c6] at H
      have c6b0 : (a0_0 == a1_0) = false := beq_eq_false_iff_ne.mpr c6
      have c6b1 : (a0_0 != a1_0) = true := bne_iff_ne.mpr c6
      (first | rw [c6b0] | (simp only [i64_w, i32_w]; rw [c6b0]) | skip)
      have H' := Aside0.mk H
      clear H
      have hnb30 := NB351_352.out
      have hnc30 := NB352_351.out
      have hcz31_0 : w5.cell? ⟨gb351, 0, none⟩ = some (.int .i64 a0_0) := (blk_cell BK351.out 0).trans rfl
      have hcz31_1 : w5.cell? ⟨gb351, 1, none⟩ = some (.bool a0_1) := (blk_cell BK351.out 1).trans rfl
      have hcz31_2 : w5.cell? ⟨gb351, 2, none⟩ = some (.int .i64 a0_2) := (blk_cell BK351.out 2).trans rfl
      have hcz31_3 : w5.cell? ⟨gb351, 3, none⟩ = some (.int .i64 a0_3) := (blk_cell BK351.out 3).trans rfl
      have hcz31_4 : w5.cell? ⟨gb351, 4, none⟩ = some (.int .i64 a0_4) := (blk_cell BK351.out 4).trans rfl
      have hcz31_5 : w5.cell? ⟨gb351, 5, none⟩ = some (.int .i64 a0_5) := (blk_cell BK351.out 5).trans rfl
      have hcz31_6 : w5.cell? ⟨gb351, 6, none⟩ = some (.int .i64 a0_6) := (blk_cell BK351.out 6).trans rfl
      have hcz31_7 : w5.cell? ⟨gb351, 7, none⟩ = some (.int .i64 a0_7) := (blk_cell BK351.out 7).trans rfl
      have hcz31_8 : w5.cell? ⟨gb351, 8, none⟩ = some (.int .i64 a0_8) := (blk_cell BK351.out 8).trans rfl
      have hcz31_9 : w5.cell? ⟨gb351, 9, none⟩ = some (.bool a0_9) := (blk_cell BK351.out 9).trans rfl
      have hcz31_10 : w5.cell? ⟨gb351, 10, none⟩ = some (.bool a0_10) := (blk_cell BK351.out 10).trans rfl
      have hcz31_11 : w5.cell? ⟨gb351, 11, none⟩ = some (.int .i64 a0_11) := (blk_cell BK351.out 11).trans rfl
      have hcz31_12 : w5.cell? ⟨gb351, 12, none⟩ = some (.int .i64 a0_12) := (blk_cell BK351.out 12).trans rfl
      have hcz31_13 : w5.cell? ⟨gb351, 13, none⟩ = some (.int .i64 a0_13) := (blk_cell BK351.out 13).trans rfl
      have hcz31_14 : w5.cell? ⟨gb351, 14, none⟩ = some (.int .i64 a0_14) := (blk_cell BK351.out 14).trans rfl
      have hcz31_15 : w5.cell? ⟨gb351, 15, none⟩ = some (.int .i64 a0_15) := (blk_cell BK351.out 15).trans rfl
      have hcz31_16 : w5.cell? ⟨gb351, 16, none⟩ = some (.int .i64 a0_16) := (blk_cell BK351.out 16).trans rfl
      have hcz31_17 : w5.cell? ⟨gb351, 17, none⟩ = some (.slice A0_17 l0_17.length c0_17) := (blk_cell BK351.out 17).trans rfl
      have hcz31_18 : w5.cell? ⟨gb351, 18, none⟩ = some (.string a0_18) := (blk_cell BK351.out 18).trans rfl
      have hfz31_0 := blk_frozen BK351.out 0
      have hfz31_1 := blk_frozen BK351.out 1
      have hfz31_2 := blk_frozen BK351.out 2
      have hfz31_3 := blk_frozen BK351.out 3
      have hfz31_4 := blk_frozen BK351.out 4
      have hfz31_5 := blk_frozen BK351.out 5
      have hfz31_6 := blk_frozen BK351.out 6
      have hfz31_7 := blk_frozen BK351.out 7
      have hfz31_8 := blk_frozen BK351.out 8
      have hfz31_9 := blk_frozen BK351.out 9
      have hfz31_10 := blk_frozen BK351.out 10
      have hfz31_11 := blk_frozen BK351.out 11
      have hfz31_12 := blk_frozen BK351.out 12
      have hfz31_13 := blk_frozen BK351.out 13
      have hfz31_14 := blk_frozen BK351.out 14
      have hfz31_15 := blk_frozen BK351.out 15
      have hfz31_16 := blk_frozen BK351.out 16
      have hfz31_17 := blk_frozen BK351.out 17
      have hfz31_18 := blk_frozen BK351.out 18
      have hcz32_0 : w5.cell? ⟨gb352, 0, none⟩ = some (.int .i64 a1_0) := (blk_cell BK352.out 0).trans rfl
      have hcz32_1 : w5.cell? ⟨gb352, 1, none⟩ = some (.bool a1_1) := (blk_cell BK352.out 1).trans rfl
      have hcz32_2 : w5.cell? ⟨gb352, 2, none⟩ = some (.int .i64 a1_2) := (blk_cell BK352.out 2).trans rfl
      have hcz32_3 : w5.cell? ⟨gb352, 3, none⟩ = some (.int .i64 a1_3) := (blk_cell BK352.out 3).trans rfl
      have hcz32_4 : w5.cell? ⟨gb352, 4, none⟩ = some (.int .i64 a1_4) := (blk_cell BK352.out 4).trans rfl
      have hcz32_5 : w5.cell? ⟨gb352, 5, none⟩ = some (.int .i64 a1_5) := (blk_cell BK352.out 5).trans rfl
      have hcz32_6 : w5.cell? ⟨gb352, 6, none⟩ = some (.int .i64 a1_6) := (blk_cell BK352.out 6).trans rfl
      have hcz32_7 : w5.cell? ⟨gb352, 7, none⟩ = some (.int .i64 a1_7) := (blk_cell BK352.out 7).trans rfl
      have hcz32_8 : w5.cell? ⟨gb352, 8, none⟩ = some (.int .i64 a1_8) := (blk_cell BK352.out 8).trans rfl
      have hcz32_9 : w5.cell? ⟨gb352, 9, none⟩ = some (.bool a1_9) := (blk_cell BK352.out 9).trans rfl
      have hcz32_10 : w5.cell? ⟨gb352, 10, none⟩ = some (.bool a1_10) := (blk_cell BK352.out 10).trans rfl
      have hcz32_11 : w5.cell? ⟨gb352, 11, none⟩ = some (.int .i64 a1_11) := (blk_cell BK352.out 11).trans rfl
      have hcz32_12 : w5.cell? ⟨gb352, 12, none⟩ = some (.int .i64 a1_12) := (blk_cell BK352.out 12).trans rfl
      have hcz32_13 : w5.cell? ⟨gb352, 13, none⟩ = some (.int .i64 a1_13) := (blk_cell BK352.out 13).trans rfl
      have hcz32_14 : w5.cell? ⟨gb352, 14, none⟩ = some (.int .i64 a1_14) := (blk_cell BK352.out 14).trans rfl
      have hcz32_15 : w5.cell? ⟨gb352, 15, none⟩ = some (.int .i64 a1_15) := (blk_cell BK352.out 15).trans rfl
      have hcz32_16 : w5.cell? ⟨gb352, 16, none⟩ = some (.int .i64 a1_16) := (blk_cell BK352.out 16).trans rfl
      have hcz32_17 : w5.cell? ⟨gb352, 17, none⟩ = some (.slice A1_17 l1_17.length c1_17) := (blk_cell BK352.out 17).trans rfl
      have hcz32_18 : w5.cell? ⟨gb352, 18, none⟩ = some (.string a1_18) := (blk_cell BK352.out 18).trans rfl
      have hfz32_0 := blk_frozen BK352.out 0
      have hfz32_1 := blk_frozen BK352.out 1
      have hfz32_2 := blk_frozen BK352.out 2
      have hfz32_3 := blk_frozen BK352.out 3
      have hfz32_4 := blk_frozen BK352.out 4
      have hfz32_5 := blk_frozen BK352.out 5
      have hfz32_6 := blk_frozen BK352.out 6
      have hfz32_7 := blk_frozen BK352.out 7
      have hfz32_8 := blk_frozen BK352.out 8
      have hfz32_9 := blk_frozen BK352.out 9
      have hfz32_10 := blk_frozen BK352.out 10
      have hfz32_11 := blk_frozen BK352.out 11
      have hfz32_12 := blk_frozen BK352.out 12
      have hfz32_13 := blk_frozen BK352.out 13
      have hfz32_14 := blk_frozen BK352.out 14
      have hfz32_15 := blk_frozen BK352.out 15
      have hfz32_16 := blk_frozen BK352.out 16
      have hfz32_17 := blk_frozen BK352.out 17
      have hfz32_18 := blk_frozen BK352.out 18
      go_wp2
      repeat (go_quiet (fail); try go_wp2)
      go_meet
      case rel => exact ⟨_, (true), (by first | rfl | (simp; done) | (simp [*]; done)), H', ⟨by first | omega | exact Nat.le_refl _⟩, ⟨by (with_reducible repeat (first | refine blk_drewN ?_ _ | refine blk_drew ?_ | refine blk_alloc ?_ _)); exact BK351.out⟩, ⟨by (with_reducible repeat (first | refine blk_drewN ?_ _ | refine blk_drew ?_ | refine blk_alloc ?_ _)); exact BK352.out⟩, ⟨by repeat (first | (with_reducible first | exact HB.out | apply below_alloc | apply pw_below_drewN | apply below_drew1 | refine below_set ?_ GE351.out | refine below_set ?_ GE352.out) | exact HB.out)⟩⟩
  case rest =>
    clear HC3
    try clear c1
    try clear c2
    try clear p2
    try clear c3
    try clear c6
    try clear c6b0
    try clear c6b1
    try clear c7
    try clear c7b0
    try clear c7b1
    try clear c7b2
    try clear c11
    try clear c11b0
    try clear c11b1
    try clear c12
    try clear c12b0
    try clear c13
    try clear c16
    try clear c16b0
    try clear c17
    try clear c20
    try clear c20b0
    try clear c20b1
    try clear c21
    try clear c24
    try clear c27
    try clear c30
    try clear hcz10_0
    try clear hcz10_1
    try clear hcz10_10
    try clear hcz10_11
    try clear hcz10_12
    try clear hcz10_13
    try clear hcz10_14
    try clear hcz10_15
    try clear hcz10_16
    try clear hcz10_17
    try clear hcz10_18
    try clear hcz10_2
    try clear hcz10_3
    try clear hcz10_4
    try clear hcz10_5
    try clear hcz10_6
    try clear hcz10_7
    try clear hcz10_8
    try clear hcz10_9
    try clear hcz14_0
    try clear hcz14_1
    try clear hcz14_10
    try clear hcz14_11
    try clear hcz14_12
    try clear hcz14_13
    try clear hcz14_14
    try clear hcz14_15
    try clear hcz14_16
    try clear hcz14_17
    try clear hcz14_18
    try clear hcz14_2
    try clear hcz14_3
    try clear hcz14_4
    try clear hcz14_5
    try clear hcz14_6
    try clear hcz14_7
    try clear hcz14_8
    try clear hcz14_9
    try clear hcz15_0
    try clear hcz15_1
    try clear hcz15_10
    try clear hcz15_11
    try clear hcz15_12
    try clear hcz15_13
    try clear hcz15_14
    try clear hcz15_15
    try clear hcz15_16
    try clear hcz15_17
    try clear hcz15_18
    try clear hcz15_2
    try clear hcz15_3
    try clear hcz15_4
    try clear hcz15_5
    try clear hcz15_6
    try clear hcz15_7
    try clear hcz15_8
    try clear hcz15_9
    try clear hcz18_0
    try clear hcz18_1
    try clear hcz18_10
    try clear hcz18_11
    try clear hcz18_12
    try clear hcz18_13
    try clear hcz18_14
    try clear hcz18_15
    try clear hcz18_16
    try clear hcz18_17
    try clear hcz18_18
    try clear hcz18_2
    try clear hcz18_3
    try clear hcz18_4
    try clear hcz18_5
    try clear hcz18_6
    try clear hcz18_7
    try clear hcz18_8
    try clear hcz18_9
    try clear hcz19_0
    try clear hcz19_1
    try clear hcz19_10
    try clear hcz19_11
    try clear hcz19_12
    try clear hcz19_13
    try clear hcz19_14
    try clear hcz19_15
    try clear hcz19_16
    try clear hcz19_17
    try clear hcz19_18
    try clear hcz19_2
    try clear hcz19_3
    try clear hcz19_4
    try clear hcz19_5
    try clear hcz19_6
    try clear hcz19_7
    try clear hcz19_8
    try clear hcz19_9
    try clear hcz22_0
    try clear hcz22_1
    try clear hcz22_10
    try clear hcz22_11
    try clear hcz22_12
    try clear hcz22_13
    try clear hcz22_14
    try clear hcz22_15
    try clear hcz22_16
    try clear hcz22_17
    try clear hcz22_18
    try clear hcz22_2
    try clear hcz22_3
    try clear hcz22_4
    try clear hcz22_5
    try clear hcz22_6
    try clear hcz22_7
    try clear hcz22_8
    try clear hcz22_9
    try clear hcz23_0
    try clear hcz23_1
    try clear hcz23_10
    try clear hcz23_11
    try clear hcz23_12
    try clear hcz23_13
    try clear hcz23_14
    try clear hcz23_15
    try clear hcz23_16
    try clear hcz23_17
    try clear hcz23_18
    try clear hcz23_2
    try clear hcz23_3
    try clear hcz23_4
    try clear hcz23_5
    try clear hcz23_6
    try clear hcz23_7
    try clear hcz23_8
    try clear hcz23_9
    try clear hcz25_0
    try clear hcz25_1
    try clear hcz25_10
    try clear hcz25_11
    try clear hcz25_12
    try clear hcz25_13
    try clear hcz25_14
    try clear hcz25_15
    try clear hcz25_16
    try clear hcz25_17
    try clear hcz25_18
    try clear hcz25_2
    try clear hcz25_3
    try clear hcz25_4
    try clear hcz25_5
    try clear hcz25_6
    try clear hcz25_7
    try clear hcz25_8
    try clear hcz25_9
    try clear hcz26_0
    try clear hcz26_1
    try clear hcz26_10
    try clear hcz26_11
    try clear hcz26_12
    try clear hcz26_13
    try clear hcz26_14
    try clear hcz26_15
    try clear hcz26_16
    try clear hcz26_17
    try clear hcz26_18
    try clear hcz26_2
    try clear hcz26_3
    try clear hcz26_4
    try clear hcz26_5
    try clear hcz26_6
    try clear hcz26_7
    try clear hcz26_8
    try clear hcz26_9
    try clear hcz28_0
    try clear hcz28_1
    try clear hcz28_10
    try clear hcz28_11
    try clear hcz28_12
    try clear hcz28_13
    try clear hcz28_14
    try clear hcz28_15
    try clear hcz28_16
    try clear hcz28_17
    try clear hcz28_18
    try clear hcz28_2
    try clear hcz28_3
    try clear hcz28_4
    try clear hcz28_5
    try clear hcz28_6
    try clear hcz28_7
    try clear hcz28_8
    try clear hcz28_9
    try clear hcz29_0
    try clear hcz29_1
    try clear hcz29_10
    try clear hcz29_11
    try clear hcz29_12
    try clear hcz29_13
    try clear hcz29_14
    try clear hcz29_15
    try clear hcz29_16
    try clear hcz29_17
    try clear hcz29_18
    try clear hcz29_2
    try clear hcz29_3
    try clear hcz29_4
    try clear hcz29_5
    try clear hcz29_6
    try clear hcz29_7
    try clear hcz29_8
    try clear hcz29_9
    try clear hcz31_0
    try clear hcz31_1
    try clear hcz31_10
    try clear hcz31_11
    try clear hcz31_12
    try clear hcz31_13
    try clear hcz31_14
    try clear hcz31_15
    try clear hcz31_16
    try clear hcz31_17
    try clear hcz31_18
    try clear hcz31_2
    try clear hcz31_3
    try clear hcz31_4
    try clear hcz31_5
    try clear hcz31_6
    try clear hcz31_7
    try clear hcz31_8
    try clear hcz31_9
    try clear hcz32_0
    try clear hcz32_1
    try clear hcz32_10
    try clear hcz32_11
    try clear hcz32_12
    try clear hcz32_13
    try clear hcz32_14
    try clear hcz32_15
    try clear hcz32_16
    try clear hcz32_17
    try clear hcz32_18
    try clear hcz32_2
    try clear hcz32_3
    try clear hcz32_4
    try clear hcz32_5
    try clear hcz32_6
    try clear hcz32_7
    try clear hcz32_8
    try clear hcz32_9
    try clear hfz10_0
    try clear hfz10_1
    try clear hfz10_10
    try clear hfz10_11
    try clear hfz10_12
    try clear hfz10_13
    try clear hfz10_14
    try clear hfz10_15
    try clear hfz10_16
    try clear hfz10_17
    try clear hfz10_18
    try clear hfz10_2
    try clear hfz10_3
    try clear hfz10_4
    try clear hfz10_5
    try clear hfz10_6
    try clear hfz10_7
    try clear hfz10_8
    try clear hfz10_9
    try clear hfz14_0
    try clear hfz14_1
    try clear hfz14_10
    try clear hfz14_11
    try clear hfz14_12
    try clear hfz14_13
    try clear hfz14_14
    try clear hfz14_15
    try clear hfz14_16
    try clear hfz14_17
    try clear hfz14_18
    try clear hfz14_2
    try clear hfz14_3
    try clear hfz14_4
    try clear hfz14_5
    try clear hfz14_6
    try clear hfz14_7
    try clear hfz14_8
    try clear hfz14_9
    try clear hfz15_0
    try clear hfz15_1
    try clear hfz15_10
    try clear hfz15_11
    try clear hfz15_12
    try clear hfz15_13
    try clear hfz15_14
    try clear hfz15_15
    try clear hfz15_16
    try clear hfz15_17
    try clear hfz15_18
    try clear hfz15_2
    try clear hfz15_3
    try clear hfz15_4
    try clear hfz15_5
    try clear hfz15_6
    try clear hfz15_7
    try clear hfz15_8
    try clear hfz15_9
    try clear hfz18_0
    try clear hfz18_1
    try clear hfz18_10
    try clear hfz18_11
    try clear hfz18_12
    try clear hfz18_13
    try clear hfz18_14
    try clear hfz18_15
    try clear hfz18_16
    try clear hfz18_17
    try clear hfz18_18
    try clear hfz18_2
    try clear hfz18_3
    try clear hfz18_4
    try clear hfz18_5
    try clear hfz18_6
    try clear hfz18_7
    try clear hfz18_8
    try clear hfz18_9
    try clear hfz19_0
    try clear hfz19_1
    try clear hfz19_10
    try clear hfz19_11
    try clear hfz19_12
    try clear hfz19_13
    try clear hfz19_14
    try clear hfz19_15
    try clear hfz19_16
    try clear hfz19_17
    try clear hfz19_18
    try clear hfz19_2
    try clear hfz19_3
    try clear hfz19_4
    try clear hfz19_5
    try clear hfz19_6
    try clear hfz19_7
    try clear hfz19_8
    try clear hfz19_9
    try clear hfz22_0
    try clear hfz22_1
    try clear hfz22_10
    try clear hfz22_11
    try clear hfz22_12
    try clear hfz22_13
    try clear hfz22_14
    try clear hfz22_15
    try clear hfz22_16
    try clear hfz22_17
    try clear hfz22_18
    try clear hfz22_2
    try clear hfz22_3
    try clear hfz22_4
    try clear hfz22_5
    try clear hfz22_6
    try clear hfz22_7
    try clear hfz22_8
    try clear hfz22_9
    try clear hfz23_0
    try clear hfz23_1
    try clear hfz23_10
    try clear hfz23_11
    try clear hfz23_12
    try clear hfz23_13
    try clear hfz23_14
    try clear hfz23_15
    try clear hfz23_16
    try clear hfz23_17
    try clear hfz23_18
    try clear hfz23_2
    try clear hfz23_3
    try clear hfz23_4
    try clear hfz23_5
    try clear hfz23_6
    try clear hfz23_7
    try clear hfz23_8
    try clear hfz23_9
    try clear hfz25_0
    try clear hfz25_1
    try clear hfz25_10
    try clear hfz25_11
    try clear hfz25_12
    try clear hfz25_13
    try clear hfz25_14
    try clear hfz25_15
    try clear hfz25_16
    try clear hfz25_17
    try clear hfz25_18
    try clear hfz25_2
    try clear hfz25_3
    try clear hfz25_4
    try clear hfz25_5
    try clear hfz25_6
    try clear hfz25_7
    try clear hfz25_8
    try clear hfz25_9
    try clear hfz26_0
    try clear hfz26_1
    try clear hfz26_10
    try clear hfz26_11
    try clear hfz26_12
    try clear hfz26_13
    try clear hfz26_14
    try clear hfz26_15
    try clear hfz26_16
    try clear hfz26_17
    try clear hfz26_18
    try clear hfz26_2
    try clear hfz26_3
    try clear hfz26_4
    try clear hfz26_5
    try clear hfz26_6
    try clear hfz26_7
    try clear hfz26_8
    try clear hfz26_9
    try clear hfz28_0
    try clear hfz28_1
    try clear hfz28_10
    try clear hfz28_11
    try clear hfz28_12
    try clear hfz28_13
    try clear hfz28_14
    try clear hfz28_15
    try clear hfz28_16
    try clear hfz28_17
    try clear hfz28_18
    try clear hfz28_2
    try clear hfz28_3
    try clear hfz28_4
    try clear hfz28_5
    try clear hfz28_6
    try clear hfz28_7
    try clear hfz28_8
    try clear hfz28_9
    try clear hfz29_0
    try clear hfz29_1
    try clear hfz29_10
    try clear hfz29_11
    try clear hfz29_12
    try clear hfz29_13
    try clear hfz29_14
    try clear hfz29_15
    try clear hfz29_16
    try clear hfz29_17
    try clear hfz29_18
    try clear hfz29_2
    try clear hfz29_3
    try clear hfz29_4
    try clear hfz29_5
    try clear hfz29_6
    try clear hfz29_7
    try clear hfz29_8
    try clear hfz29_9
    try clear hfz31_0
    try clear hfz31_1
    try clear hfz31_10
    try clear hfz31_11
    try clear hfz31_12
    try clear hfz31_13
    try clear hfz31_14
    try clear hfz31_15
    try clear hfz31_16
    try clear hfz31_17
    try clear hfz31_18
    try clear hfz31_2
    try clear hfz31_3
    try clear hfz31_4
    try clear hfz31_5
    try clear hfz31_6
    try clear hfz31_7
    try clear hfz31_8
    try clear hfz31_9
    try clear hfz32_0
    try clear hfz32_1
    try clear hfz32_10
    try clear hfz32_11
    try clear hfz32_12
    try clear hfz32_13
    try clear hfz32_14
    try clear hfz32_15
    try clear hfz32_16
    try clear hfz32_17
    try clear hfz32_18
    try clear hfz32_2
    try clear hfz32_3
    try clear hfz32_4
    try clear hfz32_5
    try clear hfz32_6
    try clear hfz32_7
    try clear hfz32_8
    try clear hfz32_9
    try clear hfz9_10
    try clear hfz9_11
    try clear hfz9_12
    try clear hfz9_13
    try clear hfz9_14
    try clear hfz9_15
    try clear hfz9_16
    try clear hfz9_17
    try clear hfz9_18
    try clear hfz9_6
    try clear hfz9_7
    try clear hfz9_8
    try clear hfz9_9
    obtain ⟨kq, x54_2, rfl, HA, HJ2, BK351, BK352, HB⟩ := hcut
    cases kq with
    | zero => exact absurd HA.out (by simp [miradorref22_Same.j0])
    | succ kj2 =>
      have H := HA.out
      clear HA
      simp only [miradorref22_Same.j0] at H
      by_cases c33 : x54_2 = true
      · subst c33
        have H1 : (some false) = some r := by rw [if_pos rfl] at H; exact H
        clear H
        have H := H1
        clear H1
        obtain rfl := Option.some.inj H
        go_wp2
        repeat (go_quiet (fail); try go_wp2)
        go_ret
        exact ⟨by first | rfl | (simp [errW_none, errW_some] <;> rfl) | (simp [*, errW_none, errW_some] <;> rfl), by repeat (first | (with_reducible first | exact HB.out | apply below_alloc | apply pw_below_drewN | apply below_drew1 | refine below_set ?_ GE351.out | refine below_set ?_ GE352.out) | exact HB.out)⟩
      · replace c33 := Bool.eq_false_iff.mpr c33
        subst c33
        have H1 : (miradorref22_Same.l0 kj2 0 a0_0 a0_1 a0_2 a0_3 a0_4 a0_5 a0_6 a0_7 a0_8 a0_9 a0_10 a0_11 a0_12 a0_13 a0_14 a0_15 a0_16 l0_17 a0_18 a1_0 a1_1 a1_2 a1_3 a1_4 a1_5 a1_6 a1_7 a1_8 a1_9 a1_10 a1_11 a1_12 a1_13 a1_14 a1_15 a1_16 l1_17 a1_18) = some r := by rw [if_neg (show ¬ (false = true) by decide)] at H; exact H
        clear H
        have H := H1
        clear H1
        have H' := Aside0.mk H
        clear H
        go_wp2
        repeat (go_quiet (fail); try go_wp2)
        go_loopg [5] kj2 (fun kq v5 w' => ∃ (x5_2 : Int), v5 = .int .i64 x5_2 ∧ Aside0 (miradorref22_Same.l0 kq x5_2 a0_0 a0_1 a0_2 a0_3 a0_4 a0_5 a0_6 a0_7 a0_8 a0_9 a0_10 a0_11 a0_12 a0_13 a0_14 a0_15 a0_16 l0_17 a0_18 a1_0 a1_1 a1_2 a1_3 a1_4 a1_5 a1_6 a1_7 a1_8 a1_9 a1_10 a1_11 a1_12 a1_13 a1_14 a1_15 a1_16 l1_17 a1_18 = some r) ∧ Aside0 (kq ≤ kj2) ∧ Aside0 (w'.heap[gb351]? = some (.cells #[.int .i64 a0_0, .bool a0_1, .int .i64 a0_2, .int .i64 a0_3, .int .i64 a0_4, .int .i64 a0_5, .int .i64 a0_6, .int .i64 a0_7, .int .i64 a0_8, .bool a0_9, .bool a0_10, .int .i64 a0_11, .int .i64 a0_12, .int .i64 a0_13, .int .i64 a0_14, .int .i64 a0_15, .int .i64 a0_16, (.slice A0_17 l0_17.length c0_17), .string a0_18] 30 (0, 0))) ∧ Aside0 (w'.heap[gb352]? = some (.cells #[.int .i64 a1_0, .bool a1_1, .int .i64 a1_2, .int .i64 a1_3, .int .i64 a1_4, .int .i64 a1_5, .int .i64 a1_6, .int .i64 a1_7, .int .i64 a1_8, .bool a1_9, .bool a1_10, .int .i64 a1_11, .int .i64 a1_12, .int .i64 a1_13, .int .i64 a1_14, .int .i64 a1_15, .int .i64 a1_16, (.slice A1_17 l1_17.length c1_17), .string a1_18] 30 (0, 0))) ∧ Aside0 (Below w.heap.size w w'))
        case atStart => exact ⟨(0), (by first | rfl | (simp; done) | (simp [*]; done)), H', ⟨Nat.le_refl _⟩, ⟨by (with_reducible repeat (first | refine blk_drewN ?_ _ | refine blk_drew ?_ | refine blk_alloc ?_ _)); exact BK351.out⟩, ⟨by (with_reducible repeat (first | refine blk_drewN ?_ _ | refine blk_drew ?_ | refine blk_alloc ?_ _)); exact BK352.out⟩, ⟨by repeat (first | (with_reducible first | exact HB.out | apply below_alloc | apply pw_below_drewN | apply below_drew1 | refine below_set ?_ GE351.out | refine below_set ?_ GE352.out) | exact HB.out)⟩⟩
        case round =>
          clear H'
          try clear c1
          try clear c2
          try clear p2
          try clear c3
          try clear c6
          try clear c6b0
          try clear c6b1
          try clear c7
          try clear c7b0
          try clear c7b1
          try clear c7b2
          try clear c11
          try clear c11b0
          try clear c11b1
          try clear c12
          try clear c12b0
          try clear c13
          try clear c16
          try clear c16b0
          try clear c17
          try clear c20
          try clear c20b0
          try clear c20b1
          try clear c21
          try clear c24
          try clear c27
          try clear c30
          try clear c33
          try clear hcz10_0
          try clear hcz10_1
          try clear hcz10_10
          try clear hcz10_11
          try clear hcz10_12
          try clear hcz10_13
          try clear hcz10_14
          try clear hcz10_15
          try clear hcz10_16
          try clear hcz10_17
          try clear hcz10_18
          try clear hcz10_2
          try clear hcz10_3
          try clear hcz10_4
          try clear hcz10_5
          try clear hcz10_6
          try clear hcz10_7
          try clear hcz10_8
          try clear hcz10_9
          try clear hcz14_0
          try clear hcz14_1
          try clear hcz14_10
          try clear hcz14_11
          try clear hcz14_12
          try clear hcz14_13
          try clear hcz14_14
          try clear hcz14_15
          try clear hcz14_16
          try clear hcz14_17
          try clear hcz14_18
          try clear hcz14_2
          try clear hcz14_3
          try clear hcz14_4
          try clear hcz14_5
          try clear hcz14_6
          try clear hcz14_7
          try clear hcz14_8
          try clear hcz14_9
          try clear hcz15_0
          try clear hcz15_1
          try clear hcz15_10
          try clear hcz15_11
          try clear hcz15_12
          try clear hcz15_13
          try clear hcz15_14
          try clear hcz15_15
          try clear hcz15_16
          try clear hcz15_17
          try clear hcz15_18
          try clear hcz15_2
          try clear hcz15_3
          try clear hcz15_4
          try clear hcz15_5
          try clear hcz15_6
          try clear hcz15_7
          try clear hcz15_8
          try clear hcz15_9
          try clear hcz18_0
          try clear hcz18_1
          try clear hcz18_10
          try clear hcz18_11
          try clear hcz18_12
          try clear hcz18_13
          try clear hcz18_14
          try clear hcz18_15
          try clear hcz18_16
          try clear hcz18_17
          try clear hcz18_18
          try clear hcz18_2
          try clear hcz18_3
          try clear hcz18_4
          try clear hcz18_5
          try clear hcz18_6
          try clear hcz18_7
          try clear hcz18_8
          try clear hcz18_9
          try clear hcz19_0
          try clear hcz19_1
          try clear hcz19_10
          try clear hcz19_11
          try clear hcz19_12
          try clear hcz19_13
          try clear hcz19_14
          try clear hcz19_15
          try clear hcz19_16
          try clear hcz19_17
          try clear hcz19_18
          try clear hcz19_2
          try clear hcz19_3
          try clear hcz19_4
          try clear hcz19_5
          try clear hcz19_6
          try clear hcz19_7
          try clear hcz19_8
          try clear hcz19_9
          try clear hcz22_0
          try clear hcz22_1
          try clear hcz22_10
          try clear hcz22_11
          try clear hcz22_12
          try clear hcz22_13
          try clear hcz22_14
          try clear hcz22_15
          try clear hcz22_16
          try clear hcz22_17
          try clear hcz22_18
          try clear hcz22_2
          try clear hcz22_3
          try clear hcz22_4
          try clear hcz22_5
          try clear hcz22_6
          try clear hcz22_7
          try clear hcz22_8
          try clear hcz22_9
          try clear hcz23_0
          try clear hcz23_1
          try clear hcz23_10
          try clear hcz23_11
          try clear hcz23_12
          try clear hcz23_13
          try clear hcz23_14
          try clear hcz23_15
          try clear hcz23_16
          try clear hcz23_17
          try clear hcz23_18
          try clear hcz23_2
          try clear hcz23_3
          try clear hcz23_4
          try clear hcz23_5
          try clear hcz23_6
          try clear hcz23_7
          try clear hcz23_8
          try clear hcz23_9
          try clear hcz25_0
          try clear hcz25_1
          try clear hcz25_10
          try clear hcz25_11
          try clear hcz25_12
          try clear hcz25_13
          try clear hcz25_14
          try clear hcz25_15
          try clear hcz25_16
          try clear hcz25_17
          try clear hcz25_18
          try clear hcz25_2
          try clear hcz25_3
          try clear hcz25_4
          try clear hcz25_5
          try clear hcz25_6
          try clear hcz25_7
          try clear hcz25_8
          try clear hcz25_9
          try clear hcz26_0
          try clear hcz26_1
          try clear hcz26_10
          try clear hcz26_11
          try clear hcz26_12
          try clear hcz26_13
          try clear hcz26_14
          try clear hcz26_15
          try clear hcz26_16
          try clear hcz26_17
          try clear hcz26_18
          try clear hcz26_2
          try clear hcz26_3
          try clear hcz26_4
          try clear hcz26_5
          try clear hcz26_6
          try clear hcz26_7
          try clear hcz26_8
          try clear hcz26_9
          try clear hcz28_0
          try clear hcz28_1
          try clear hcz28_10
          try clear hcz28_11
          try clear hcz28_12
          try clear hcz28_13
          try clear hcz28_14
          try clear hcz28_15
          try clear hcz28_16
          try clear hcz28_17
          try clear hcz28_18
          try clear hcz28_2
          try clear hcz28_3
          try clear hcz28_4
          try clear hcz28_5
          try clear hcz28_6
          try clear hcz28_7
          try clear hcz28_8
          try clear hcz28_9
          try clear hcz29_0
          try clear hcz29_1
          try clear hcz29_10
          try clear hcz29_11
          try clear hcz29_12
          try clear hcz29_13
          try clear hcz29_14
          try clear hcz29_15
          try clear hcz29_16
          try clear hcz29_17
          try clear hcz29_18
          try clear hcz29_2
          try clear hcz29_3
          try clear hcz29_4
          try clear hcz29_5
          try clear hcz29_6
          try clear hcz29_7
          try clear hcz29_8
          try clear hcz29_9
          try clear hcz31_0
          try clear hcz31_1
          try clear hcz31_10
          try clear hcz31_11
          try clear hcz31_12
          try clear hcz31_13
          try clear hcz31_14
          try clear hcz31_15
          try clear hcz31_16
          try clear hcz31_17
          try clear hcz31_18
          try clear hcz31_2
          try clear hcz31_3
          try clear hcz31_4
          try clear hcz31_5
          try clear hcz31_6
          try clear hcz31_7
          try clear hcz31_8
          try clear hcz31_9
          try clear hcz32_0
          try clear hcz32_1
          try clear hcz32_10
          try clear hcz32_11
          try clear hcz32_12
          try clear hcz32_13
          try clear hcz32_14
          try clear hcz32_15
          try clear hcz32_16
          try clear hcz32_17
          try clear hcz32_18
          try clear hcz32_2
          try clear hcz32_3
          try clear hcz32_4
          try clear hcz32_5
          try clear hcz32_6
          try clear hcz32_7
          try clear hcz32_8
          try clear hcz32_9
          try clear hfz10_0
          try clear hfz10_1
          try clear hfz10_10
          try clear hfz10_11
          try clear hfz10_12
          try clear hfz10_13
          try clear hfz10_14
          try clear hfz10_15
          try clear hfz10_16
          try clear hfz10_17
          try clear hfz10_18
          try clear hfz10_2
          try clear hfz10_3
          try clear hfz10_4
          try clear hfz10_5
          try clear hfz10_6
          try clear hfz10_7
          try clear hfz10_8
          try clear hfz10_9
          try clear hfz14_0
          try clear hfz14_1
          try clear hfz14_10
          try clear hfz14_11
          try clear hfz14_12
          try clear hfz14_13
          try clear hfz14_14
          try clear hfz14_15
          try clear hfz14_16
          try clear hfz14_17
          try clear hfz14_18
          try clear hfz14_2
          try clear hfz14_3
          try clear hfz14_4
          try clear hfz14_5
          try clear hfz14_6
          try clear hfz14_7
          try clear hfz14_8
          try clear hfz14_9
          try clear hfz15_0
          try clear hfz15_1
          try clear hfz15_10
          try clear hfz15_11
          try clear hfz15_12
          try clear hfz15_13
          try clear hfz15_14
          try clear hfz15_15
          try clear hfz15_16
          try clear hfz15_17
          try clear hfz15_18
          try clear hfz15_2
          try clear hfz15_3
          try clear hfz15_4
          try clear hfz15_5
          try clear hfz15_6
          try clear hfz15_7
          try clear hfz15_8
          try clear hfz15_9
          try clear hfz18_0
          try clear hfz18_1
          try clear hfz18_10
          try clear hfz18_11
          try clear hfz18_12
          try clear hfz18_13
          try clear hfz18_14
          try clear hfz18_15
          try clear hfz18_16
          try clear hfz18_17
          try clear hfz18_18
          try clear hfz18_2
          try clear hfz18_3
          try clear hfz18_4
          try clear hfz18_5
          try clear hfz18_6
          try clear hfz18_7
          try clear hfz18_8
          try clear hfz18_9
          try clear hfz19_0
          try clear hfz19_1
          try clear hfz19_10
          try clear hfz19_11
          try clear hfz19_12
          try clear hfz19_13
          try clear hfz19_14
          try clear hfz19_15
          try clear hfz19_16
          try clear hfz19_17
          try clear hfz19_18
          try clear hfz19_2
          try clear hfz19_3
          try clear hfz19_4
          try clear hfz19_5
          try clear hfz19_6
          try clear hfz19_7
          try clear hfz19_8
          try clear hfz19_9
          try clear hfz22_0
          try clear hfz22_1
          try clear hfz22_10
          try clear hfz22_11
          try clear hfz22_12
          try clear hfz22_13
          try clear hfz22_14
          try clear hfz22_15
          try clear hfz22_16
          try clear hfz22_17
          try clear hfz22_18
          try clear hfz22_2
          try clear hfz22_3
          try clear hfz22_4
          try clear hfz22_5
          try clear hfz22_6
          try clear hfz22_7
          try clear hfz22_8
          try clear hfz22_9
          try clear hfz23_0
          try clear hfz23_1
          try clear hfz23_10
          try clear hfz23_11
          try clear hfz23_12
          try clear hfz23_13
          try clear hfz23_14
          try clear hfz23_15
          try clear hfz23_16
          try clear hfz23_17
          try clear hfz23_18
          try clear hfz23_2
          try clear hfz23_3
          try clear hfz23_4
          try clear hfz23_5
          try clear hfz23_6
          try clear hfz23_7
          try clear hfz23_8
          try clear hfz23_9
          try clear hfz25_0
          try clear hfz25_1
          try clear hfz25_10
          try clear hfz25_11
          try clear hfz25_12
          try clear hfz25_13
          try clear hfz25_14
          try clear hfz25_15
          try clear hfz25_16
          try clear hfz25_17
          try clear hfz25_18
          try clear hfz25_2
          try clear hfz25_3
          try clear hfz25_4
          try clear hfz25_5
          try clear hfz25_6
          try clear hfz25_7
          try clear hfz25_8
          try clear hfz25_9
          try clear hfz26_0
          try clear hfz26_1
          try clear hfz26_10
          try clear hfz26_11
          try clear hfz26_12
          try clear hfz26_13
          try clear hfz26_14
          try clear hfz26_15
          try clear hfz26_16
          try clear hfz26_17
          try clear hfz26_18
          try clear hfz26_2
          try clear hfz26_3
          try clear hfz26_4
          try clear hfz26_5
          try clear hfz26_6
          try clear hfz26_7
          try clear hfz26_8
          try clear hfz26_9
          try clear hfz28_0
          try clear hfz28_1
          try clear hfz28_10
          try clear hfz28_11
          try clear hfz28_12
          try clear hfz28_13
          try clear hfz28_14
          try clear hfz28_15
          try clear hfz28_16
          try clear hfz28_17
          try clear hfz28_18
          try clear hfz28_2
          try clear hfz28_3
          try clear hfz28_4
          try clear hfz28_5
          try clear hfz28_6
          try clear hfz28_7
          try clear hfz28_8
          try clear hfz28_9
          try clear hfz29_0
          try clear hfz29_1
          try clear hfz29_10
          try clear hfz29_11
          try clear hfz29_12
          try clear hfz29_13
          try clear hfz29_14
          try clear hfz29_15
          try clear hfz29_16
          try clear hfz29_17
          try clear hfz29_18
          try clear hfz29_2
          try clear hfz29_3
          try clear hfz29_4
          try clear hfz29_5
          try clear hfz29_6
          try clear hfz29_7
          try clear hfz29_8
          try clear hfz29_9
          try clear hfz31_0
          try clear hfz31_1
          try clear hfz31_10
          try clear hfz31_11
          try clear hfz31_12
          try clear hfz31_13
          try clear hfz31_14
          try clear hfz31_15
          try clear hfz31_16
          try clear hfz31_17
          try clear hfz31_18
          try clear hfz31_2
          try clear hfz31_3
          try clear hfz31_4
          try clear hfz31_5
          try clear hfz31_6
          try clear hfz31_7
          try clear hfz31_8
          try clear hfz31_9
          try clear hfz32_0
          try clear hfz32_1
          try clear hfz32_10
          try clear hfz32_11
          try clear hfz32_12
          try clear hfz32_13
          try clear hfz32_14
          try clear hfz32_15
          try clear hfz32_16
          try clear hfz32_17
          try clear hfz32_18
          try clear hfz32_2
          try clear hfz32_3
          try clear hfz32_4
          try clear hfz32_5
          try clear hfz32_6
          try clear hfz32_7
          try clear hfz32_8
          try clear hfz32_9
          try clear hfz9_10
          try clear hfz9_11
          try clear hfz9_12
          try clear hfz9_13
          try clear hfz9_14
          try clear hfz9_15
          try clear hfz9_16
          try clear hfz9_17
          try clear hfz9_18
          try clear hfz9_6
          try clear hfz9_7
          try clear hfz9_8
          try clear hfz9_9
          try clear p2
          obtain ⟨x5_2, rfl, HA, HK2, BK351, BK352, HB⟩ := hrel
          cases gk with
          | zero => exact absurd HA.out (by simp [miradorref22_Same.l0])
          | succ k2 =>
            have H := HA.out
            clear HA
            simp only [miradorref22_Same.l0] at H
            by_cases c34 : x5_2 < (l0_17.length : Int)
            · rw [if_pos c34] at H
              have c34b0 : decide (x5_2 < (l0_17.length : Int)) = true := decide_eq_true c34
              clear c34
              by_cases c35 : 0 ≤ x5_2
              · rw [if_pos c35] at H
                have c35b0 : decide (0 ≤ x5_2) = true := decide_eq_true c35
                clear c35
                by_cases c36 : x5_2 < (l1_17.length : Int)
                · rw [if_pos c36] at H
                  have c36b0 : decide (x5_2 < (l1_17.length : Int)) = true := decide_eq_true c36
                  clear c36
                  by_cases c37 : (rd l0_17 x5_2) = (rd l1_17 x5_2)
                  · rw [if_pos c37] at H
                    have c37b0 : ((rd l0_17 x5_2) == (rd l1_17 x5_2)) = true := beq_iff_eq.mpr c37
                    have c37b1 : ((rd l0_17 x5_2) != (rd l1_17 x5_2)) = false := bne_eq_false_iff_eq.mpr c37
                    clear c37
                    have H' := Aside0.mk H
                    clear H
                    have hnb38 := NB351_352.out
                    have hnc38 := NB352_351.out
                    have hcz39_0 : wr.cell? ⟨gb351, 0, none⟩ = some (.int .i64 a0_0) := (blk_cell BK351.out 0).trans rfl
                    have hcz39_1 : wr.cell? ⟨gb351, 1, none⟩ = some (.bool a0_1) := (blk_cell BK351.out 1).trans rfl
                    have hcz39_2 : wr.cell? ⟨gb351, 2, none⟩ = some (.int .i64 a0_2) := (blk_cell BK351.out 2).trans rfl
                    have hcz39_3 : wr.cell? ⟨gb351, 3, none⟩ = some (.int .i64 a0_3) := (blk_cell BK351.out 3).trans rfl
                    have hcz39_4 : wr.cell? ⟨gb351, 4, none⟩ = some (.int .i64 a0_4) := (blk_cell BK351.out 4).trans rfl
                    have hcz39_5 : wr.cell? ⟨gb351, 5, none⟩ = some (.int .i64 a0_5) := (blk_cell BK351.out 5).trans rfl
                    have hcz39_6 : wr.cell? ⟨gb351, 6, none⟩ = some (.int .i64 a0_6) := (blk_cell BK351.out 6).trans rfl
                    have hcz39_7 : wr.cell? ⟨gb351, 7, none⟩ = some (.int .i64 a0_7) := (blk_cell BK351.out 7).trans rfl
                    have hcz39_8 : wr.cell? ⟨gb351, 8, none⟩ = some (.int .i64 a0_8) := (blk_cell BK351.out 8).trans rfl
                    have hcz39_9 : wr.cell? ⟨gb351, 9, none⟩ = some (.bool a0_9) := (blk_cell BK351.out 9).trans rfl
                    have hcz39_10 : wr.cell? ⟨gb351, 10, none⟩ = some (.bool a0_10) := (blk_cell BK351.out 10).trans rfl
                    have hcz39_11 : wr.cell? ⟨gb351, 11, none⟩ = some (.int .i64 a0_11) := (blk_cell BK351.out 11).trans rfl
                    have hcz39_12 : wr.cell? ⟨gb351, 12, none⟩ = some (.int .i64 a0_12) := (blk_cell BK351.out 12).trans rfl
                    have hcz39_13 : wr.cell? ⟨gb351, 13, none⟩ = some (.int .i64 a0_13) := (blk_cell BK351.out 13).trans rfl
                    have hcz39_14 : wr.cell? ⟨gb351, 14, none⟩ = some (.int .i64 a0_14) := (blk_cell BK351.out 14).trans rfl
                    have hcz39_15 : wr.cell? ⟨gb351, 15, none⟩ = some (.int .i64 a0_15) := (blk_cell BK351.out 15).trans rfl
                    have hcz39_16 : wr.cell? ⟨gb351, 16, none⟩ = some (.int .i64 a0_16) := (blk_cell BK351.out 16).trans rfl
                    have hcz39_17 : wr.cell? ⟨gb351, 17, none⟩ = some (.slice A0_17 l0_17.length c0_17) := (blk_cell BK351.out 17).trans rfl
                    have hcz39_18 : wr.cell? ⟨gb351, 18, none⟩ = some (.string a0_18) := (blk_cell BK351.out 18).trans rfl
                    have hfz39_0 := blk_frozen BK351.out 0
                    have hfz39_1 := blk_frozen BK351.out 1
                    have hfz39_2 := blk_frozen BK351.out 2
                    have hfz39_3 := blk_frozen BK351.out 3
                    have hfz39_4 := blk_frozen BK351.out 4
                    have hfz39_5 := blk_frozen BK351.out 5
                    have hfz39_6 := blk_frozen BK351.out 6
                    have hfz39_7 := blk_frozen BK351.out 7
                    have hfz39_8 := blk_frozen BK351.out 8
                    have hfz39_9 := blk_frozen BK351.out 9
                    have hfz39_10 := blk_frozen BK351.out 10
                    have hfz39_11 := blk_frozen BK351.out 11
                    have hfz39_12 := blk_frozen BK351.out 12
                    have hfz39_13 := blk_frozen BK351.out 13
                    have hfz39_14 := blk_frozen BK351.out 14
                    have hfz39_15 := blk_frozen BK351.out 15
                    have hfz39_16 := blk_frozen BK351.out 16
                    have hfz39_17 := blk_frozen BK351.out 17
                    have hfz39_18 := blk_frozen BK351.out 18
                    have p353 : 0 ≤ (x5_2 : Int) := of_decide_eq_true (by first | (with_reducible assumption) | assumption)
                    have q353 : x5_2 < (l0_17.length : Int) := of_decide_eq_true (by first | (with_reducible assumption) | assumption)
                    obtain ⟨ad353, e353, hx353_0⟩ := Kd.at_int HR0_17.out x5_2 p353 q353
                    cases e353
                    replace hx353_0 := (HB.out.cell (World.block_lt_of_cell? w _ hx353_0)).trans hx353_0
                    replace p353 := eq_true p353
                    replace q353 := eq_true q353
                    have hcz40_0 : wr.cell? ⟨gb352, 0, none⟩ = some (.int .i64 a1_0) := (blk_cell BK352.out 0).trans rfl
                    have hcz40_1 : wr.cell? ⟨gb352, 1, none⟩ = some (.bool a1_1) := (blk_cell BK352.out 1).trans rfl
                    have hcz40_2 : wr.cell? ⟨gb352, 2, none⟩ = some (.int .i64 a1_2) := (blk_cell BK352.out 2).trans rfl
                    have hcz40_3 : wr.cell? ⟨gb352, 3, none⟩ = some (.int .i64 a1_3) := (blk_cell BK352.out 3).trans rfl
                    have hcz40_4 : wr.cell? ⟨gb352, 4, none⟩ = some (.int .i64 a1_4) := (blk_cell BK352.out 4).trans rfl
                    have hcz40_5 : wr.cell? ⟨gb352, 5, none⟩ = some (.int .i64 a1_5) := (blk_cell BK352.out 5).trans rfl
                    have hcz40_6 : wr.cell? ⟨gb352, 6, none⟩ = some (.int .i64 a1_6) := (blk_cell BK352.out 6).trans rfl
                    have hcz40_7 : wr.cell? ⟨gb352, 7, none⟩ = some (.int .i64 a1_7) := (blk_cell BK352.out 7).trans rfl
                    have hcz40_8 : wr.cell? ⟨gb352, 8, none⟩ = some (.int .i64 a1_8) := (blk_cell BK352.out 8).trans rfl
                    have hcz40_9 : wr.cell? ⟨gb352, 9, none⟩ = some (.bool a1_9) := (blk_cell BK352.out 9).trans rfl
                    have hcz40_10 : wr.cell? ⟨gb352, 10, none⟩ = some (.bool a1_10) := (blk_cell BK352.out 10).trans rfl
                    have hcz40_11 : wr.cell? ⟨gb352, 11, none⟩ = some (.int .i64 a1_11) := (blk_cell BK352.out 11).trans rfl
                    have hcz40_12 : wr.cell? ⟨gb352, 12, none⟩ = some (.int .i64 a1_12) := (blk_cell BK352.out 12).trans rfl
                    have hcz40_13 : wr.cell? ⟨gb352, 13, none⟩ = some (.int .i64 a1_13) := (blk_cell BK352.out 13).trans rfl
                    have hcz40_14 : wr.cell? ⟨gb352, 14, none⟩ = some (.int .i64 a1_14) := (blk_cell BK352.out 14).trans rfl
                    have hcz40_15 : wr.cell? ⟨gb352, 15, none⟩ = some (.int .i64 a1_15) := (blk_cell BK352.out 15).trans rfl
                    have hcz40_16 : wr.cell? ⟨gb352, 16, none⟩ = some (.int .i64 a1_16) := (blk_cell BK352.out 16).trans rfl
                    have hcz40_17 : wr.cell? ⟨gb352, 17, none⟩ = some (.slice A1_17 l1_17.length c1_17) := (blk_cell BK352.out 17).trans rfl
                    have hcz40_18 : wr.cell? ⟨gb352, 18, none⟩ = some (.string a1_18) := (blk_cell BK352.out 18).trans rfl
                    have hfz40_0 := blk_frozen BK352.out 0
                    have hfz40_1 := blk_frozen BK352.out 1
                    have hfz40_2 := blk_frozen BK352.out 2
                    have hfz40_3 := blk_frozen BK352.out 3
                    have hfz40_4 := blk_frozen BK352.out 4
                    have hfz40_5 := blk_frozen BK352.out 5
                    have hfz40_6 := blk_frozen BK352.out 6
                    have hfz40_7 := blk_frozen BK352.out 7
                    have hfz40_8 := blk_frozen BK352.out 8
                    have hfz40_9 := blk_frozen BK352.out 9
                    have hfz40_10 := blk_frozen BK352.out 10
                    have hfz40_11 := blk_frozen BK352.out 11
                    have hfz40_12 := blk_frozen BK352.out 12
                    have hfz40_13 := blk_frozen BK352.out 13
                    have hfz40_14 := blk_frozen BK352.out 14
                    have hfz40_15 := blk_frozen BK352.out 15
                    have hfz40_16 := blk_frozen BK352.out 16
                    have hfz40_17 := blk_frozen BK352.out 17
                    have hfz40_18 := blk_frozen BK352.out 18
                    have p354 : 0 ≤ (x5_2 : Int) := of_decide_eq_true (by first | (with_reducible assumption) | assumption)
                    have q354 : x5_2 < (l1_17.length : Int) := of_decide_eq_true (by first | (with_reducible assumption) | assumption)
                    obtain ⟨ad354, e354, hx354_0⟩ := Kd.at_int HR1_17.out x5_2 p354 q354
                    cases e354
                    replace hx354_0 := (HB.out.cell (World.block_lt_of_cell? w _ hx354_0)).trans hx354_0
                    replace p354 := eq_true p354
                    replace q354 := eq_true q354
                    go_wp2
                    repeat (go_quiet (fail); try go_wp2)
                    go_roundg k2
                    case measure => have := HJ2.out; have := HK2.out; omega
                    case rel => exact ⟨(wrap64 (x5_2 + 1)), (by first | rfl | (simp; done) | (simp [*]; done)), H', ⟨by have := HJ2.out; have := HK2.out; omega⟩, ⟨by (with_reducible repeat (first | refine blk_drewN ?_ _ | refine blk_drew ?_ | refine blk_alloc ?_ _)); exact BK351.out⟩, ⟨by (with_reducible repeat (first | refine blk_drewN ?_ _ | refine blk_drew ?_ | refine blk_alloc ?_ _)); exact BK352.out⟩, ⟨by repeat (first | (with_reducible first | exact HB.out | apply below_alloc | apply pw_below_drewN | apply below_drew1 | refine below_set ?_ GE351.out | refine below_set ?_ GE352.out) | exact HB.out)⟩⟩
                  · rw [if_neg c37] at H
                    have c37b0 : ((rd l0_17 x5_2) == (rd l1_17 x5_2)) = false := beq_eq_false_iff_ne.mpr c37
                    have c37b1 : ((rd l0_17 x5_2) != (rd l1_17 x5_2)) = true := bne_iff_ne.mpr c37
                    obtain rfl := Option.some.inj H
                    have hnb41 := NB351_352.out
                    have hnc41 := NB352_351.out
                    have hcz42_0 : wr.cell? ⟨gb351, 0, none⟩ = some (.int .i64 a0_0) := (blk_cell BK351.out 0).trans rfl
                    have hcz42_1 : wr.cell? ⟨gb351, 1, none⟩ = some (.bool a0_1) := (blk_cell BK351.out 1).trans rfl
                    have hcz42_2 : wr.cell? ⟨gb351, 2, none⟩ = some (.int .i64 a0_2) := (blk_cell BK351.out 2).trans rfl
                    have hcz42_3 : wr.cell? ⟨gb351, 3, none⟩ = some (.int .i64 a0_3) := (blk_cell BK351.out 3).trans rfl
                    have hcz42_4 : wr.cell? ⟨gb351, 4, none⟩ = some (.int .i64 a0_4) := (blk_cell BK351.out 4).trans rfl
                    have hcz42_5 : wr.cell? ⟨gb351, 5, none⟩ = some (.int .i64 a0_5) := (blk_cell BK351.out 5).trans rfl
                    have hcz42_6 : wr.cell? ⟨gb351, 6, none⟩ = some (.int .i64 a0_6) := (blk_cell BK351.out 6).trans rfl
                    have hcz42_7 : wr.cell? ⟨gb351, 7, none⟩ = some (.int .i64 a0_7) := (blk_cell BK351.out 7).trans rfl
                    have hcz42_8 : wr.cell? ⟨gb351, 8, none⟩ = some (.int .i64 a0_8) := (blk_cell BK351.out 8).trans rfl
                    have hcz42_9 : wr.cell? ⟨gb351, 9, none⟩ = some (.bool a0_9) := (blk_cell BK351.out 9).trans rfl
                    have hcz42_10 : wr.cell? ⟨gb351, 10, none⟩ = some (.bool a0_10) := (blk_cell BK351.out 10).trans rfl
                    have hcz42_11 : wr.cell? ⟨gb351, 11, none⟩ = some (.int .i64 a0_11) := (blk_cell BK351.out 11).trans rfl
                    have hcz42_12 : wr.cell? ⟨gb351, 12, none⟩ = some (.int .i64 a0_12) := (blk_cell BK351.out 12).trans rfl
                    have hcz42_13 : wr.cell? ⟨gb351, 13, none⟩ = some (.int .i64 a0_13) := (blk_cell BK351.out 13).trans rfl
                    have hcz42_14 : wr.cell? ⟨gb351, 14, none⟩ = some (.int .i64 a0_14) := (blk_cell BK351.out 14).trans rfl
                    have hcz42_15 : wr.cell? ⟨gb351, 15, none⟩ = some (.int .i64 a0_15) := (blk_cell BK351.out 15).trans rfl
                    have hcz42_16 : wr.cell? ⟨gb351, 16, none⟩ = some (.int .i64 a0_16) := (blk_cell BK351.out 16).trans rfl
                    have hcz42_17 : wr.cell? ⟨gb351, 17, none⟩ = some (.slice A0_17 l0_17.length c0_17) := (blk_cell BK351.out 17).trans rfl
                    have hcz42_18 : wr.cell? ⟨gb351, 18, none⟩ = some (.string a0_18) := (blk_cell BK351.out 18).trans rfl
                    have hfz42_0 := blk_frozen BK351.out 0
                    have hfz42_1 := blk_frozen BK351.out 1
                    have hfz42_2 := blk_frozen BK351.out 2
                    have hfz42_3 := blk_frozen BK351.out 3
                    have hfz42_4 := blk_frozen BK351.out 4
                    have hfz42_5 := blk_frozen BK351.out 5
                    have hfz42_6 := blk_frozen BK351.out 6
                    have hfz42_7 := blk_frozen BK351.out 7
                    have hfz42_8 := blk_frozen BK351.out 8
                    have hfz42_9 := blk_frozen BK351.out 9
                    have hfz42_10 := blk_frozen BK351.out 10
                    have hfz42_11 := blk_frozen BK351.out 11
                    have hfz42_12 := blk_frozen BK351.out 12
                    have hfz42_13 := blk_frozen BK351.out 13
                    have hfz42_14 := blk_frozen BK351.out 14
                    have hfz42_15 := blk_frozen BK351.out 15
                    have hfz42_16 := blk_frozen BK351.out 16
                    have hfz42_17 := blk_frozen BK351.out 17
                    have hfz42_18 := blk_frozen BK351.out 18
                    have p353 : 0 ≤ (x5_2 : Int) := of_decide_eq_true (by first | (with_reducible assumption) | assumption)
                    have q353 : x5_2 < (l0_17.length : Int) := of_decide_eq_true (by first | (with_reducible assumption) | assumption)
                    obtain ⟨ad353, e353, hx353_0⟩ := Kd.at_int HR0_17.out x5_2 p353 q353
                    cases e353
                    replace hx353_0 := (HB.out.cell (World.block_lt_of_cell? w _ hx353_0)).trans hx353_0
                    replace p353 := eq_true p353
                    replace q353 := eq_true q353
                    have hcz43_0 : wr.cell? ⟨gb352, 0, none⟩ = some (.int .i64 a1_0) := (blk_cell BK352.out 0).trans rfl
                    have hcz43_1 : wr.cell? ⟨gb352, 1, none⟩ = some (.bool a1_1) := (blk_cell BK352.out 1).trans rfl
                    have hcz43_2 : wr.cell? ⟨gb352, 2, none⟩ = some (.int .i64 a1_2) := (blk_cell BK352.out 2).trans rfl
                    have hcz43_3 : wr.cell? ⟨gb352, 3, none⟩ = some (.int .i64 a1_3) := (blk_cell BK352.out 3).trans rfl
                    have hcz43_4 : wr.cell? ⟨gb352, 4, none⟩ = some (.int .i64 a1_4) := (blk_cell BK352.out 4).trans rfl
                    have hcz43_5 : wr.cell? ⟨gb352, 5, none⟩ = some (.int .i64 a1_5) := (blk_cell BK352.out 5).trans rfl
                    have hcz43_6 : wr.cell? ⟨gb352, 6, none⟩ = some (.int .i64 a1_6) := (blk_cell BK352.out 6).trans rfl
                    have hcz43_7 : wr.cell? ⟨gb352, 7, none⟩ = some (.int .i64 a1_7) := (blk_cell BK352.out 7).trans rfl
                    have hcz43_8 : wr.cell? ⟨gb352, 8, none⟩ = some (.int .i64 a1_8) := (blk_cell BK352.out 8).trans rfl
                    have hcz43_9 : wr.cell? ⟨gb352, 9, none⟩ = some (.bool a1_9) := (blk_cell BK352.out 9).trans rfl
                    have hcz43_10 : wr.cell? ⟨gb352, 10, none⟩ = some (.bool a1_10) := (blk_cell BK352.out 10).trans rfl
                    have hcz43_11 : wr.cell? ⟨gb352, 11, none⟩ = some (.int .i64 a1_11) := (blk_cell BK352.out 11).trans rfl
                    have hcz43_12 : wr.cell? ⟨gb352, 12, none⟩ = some (.int .i64 a1_12) := (blk_cell BK352.out 12).trans rfl
                    have hcz43_13 : wr.cell? ⟨gb352, 13, none⟩ = some (.int .i64 a1_13) := (blk_cell BK352.out 13).trans rfl
                    have hcz43_14 : wr.cell? ⟨gb352, 14, none⟩ = some (.int .i64 a1_14) := (blk_cell BK352.out 14).trans rfl
                    have hcz43_15 : wr.cell? ⟨gb352, 15, none⟩ = some (.int .i64 a1_15) := (blk_cell BK352.out 15).trans rfl
                    have hcz43_16 : wr.cell? ⟨gb352, 16, none⟩ = some (.int .i64 a1_16) := (blk_cell BK352.out 16).trans rfl
                    have hcz43_17 : wr.cell? ⟨gb352, 17, none⟩ = some (.slice A1_17 l1_17.length c1_17) := (blk_cell BK352.out 17).trans rfl
                    have hcz43_18 : wr.cell? ⟨gb352, 18, none⟩ = some (.string a1_18) := (blk_cell BK352.out 18).trans rfl
                    have hfz43_0 := blk_frozen BK352.out 0
                    have hfz43_1 := blk_frozen BK352.out 1
                    have hfz43_2 := blk_frozen BK352.out 2
                    have hfz43_3 := blk_frozen BK352.out 3
                    have hfz43_4 := blk_frozen BK352.out 4
                    have hfz43_5 := blk_frozen BK352.out 5
                    have hfz43_6 := blk_frozen BK352.out 6
                    have hfz43_7 := blk_frozen BK352.out 7
                    have hfz43_8 := blk_frozen BK352.out 8
                    have hfz43_9 := blk_frozen BK352.out 9
                    have hfz43_10 := blk_frozen BK352.out 10
                    have hfz43_11 := blk_frozen BK352.out 11
                    have hfz43_12 := blk_frozen BK352.out 12
                    have hfz43_13 := blk_frozen BK352.out 13
                    have hfz43_14 := blk_frozen BK352.out 14
                    have hfz43_15 := blk_frozen BK352.out 15
                    have hfz43_16 := blk_frozen BK352.out 16
                    have hfz43_17 := blk_frozen BK352.out 17
                    have hfz43_18 := blk_frozen BK352.out 18
                    have p354 : 0 ≤ (x5_2 : Int) := of_decide_eq_true (by first | (with_reducible assumption) | assumption)
                    have q354 : x5_2 < (l1_17.length : Int) := of_decide_eq_true (by first | (with_reducible assumption) | assumption)
                    obtain ⟨ad354, e354, hx354_0⟩ := Kd.at_int HR1_17.out x5_2 p354 q354
                    cases e354
                    replace hx354_0 := (HB.out.cell (World.block_lt_of_cell? w _ hx354_0)).trans hx354_0
                    replace p354 := eq_true p354
                    replace q354 := eq_true q354
                    go_wp2
                    repeat (go_quiet (fail); try go_wp2)
                    go_ret
                    exact ⟨by first | rfl | (simp [errW_none, errW_some] <;> rfl) | (simp [*, errW_none, errW_some] <;> rfl), by repeat (first | (with_reducible first | exact HB.out | apply below_alloc | apply pw_below_drewN | apply below_drew1 | refine below_set ?_ GE351.out | refine below_set ?_ GE352.out) | exact HB.out)⟩
                · rw [if_neg c36] at H
                  exact absurd H (by simp)
              · rw [if_neg c35] at H
                exact absurd H (by simp)
            · rw [if_neg c34] at H
              have c34b0 : decide (x5_2 < (l0_17.length : Int)) = false := decide_eq_false c34
              clear c34
              obtain rfl := Option.some.inj H
              have hnb44 := NB351_352.out
              have hnc44 := NB352_351.out
              have hcz45_0 : wr.cell? ⟨gb351, 0, none⟩ = some (.int .i64 a0_0) := (blk_cell BK351.out 0).trans rfl
              have hcz45_1 : wr.cell? ⟨gb351, 1, none⟩ = some (.bool a0_1) := (blk_cell BK351.out 1).trans rfl
              have hcz45_2 : wr.cell? ⟨gb351, 2, none⟩ = some (.int .i64 a0_2) := (blk_cell BK351.out 2).trans rfl
              have hcz45_3 : wr.cell? ⟨gb351, 3, none⟩ = some (.int .i64 a0_3) := (blk_cell BK351.out 3).trans rfl
              have hcz45_4 : wr.cell? ⟨gb351, 4, none⟩ = some (.int .i64 a0_4) := (blk_cell BK351.out 4).trans rfl
              have hcz45_5 : wr.cell? ⟨gb351, 5, none⟩ = some (.int .i64 a0_5) := (blk_cell BK351.out 5).trans rfl
              have hcz45_6 : wr.cell? ⟨gb351, 6, none⟩ = some (.int .i64 a0_6) := (blk_cell BK351.out 6).trans rfl
              have hcz45_7 : wr.cell? ⟨gb351, 7, none⟩ = some (.int .i64 a0_7) := (blk_cell BK351.out 7).trans rfl
              have hcz45_8 : wr.cell? ⟨gb351, 8, none⟩ = some (.int .i64 a0_8) := (blk_cell BK351.out 8).trans rfl
              have hcz45_9 : wr.cell? ⟨gb351, 9, none⟩ = some (.bool a0_9) := (blk_cell BK351.out 9).trans rfl
              have hcz45_10 : wr.cell? ⟨gb351, 10, none⟩ = some (.bool a0_10) := (blk_cell BK351.out 10).trans rfl
              have hcz45_11 : wr.cell? ⟨gb351, 11, none⟩ = some (.int .i64 a0_11) := (blk_cell BK351.out 11).trans rfl
              have hcz45_12 : wr.cell? ⟨gb351, 12, none⟩ = some (.int .i64 a0_12) := (blk_cell BK351.out 12).trans rfl
              have hcz45_13 : wr.cell? ⟨gb351, 13, none⟩ = some (.int .i64 a0_13) := (blk_cell BK351.out 13).trans rfl
              have hcz45_14 : wr.cell? ⟨gb351, 14, none⟩ = some (.int .i64 a0_14) := (blk_cell BK351.out 14).trans rfl
              have hcz45_15 : wr.cell? ⟨gb351, 15, none⟩ = some (.int .i64 a0_15) := (blk_cell BK351.out 15).trans rfl
              have hcz45_16 : wr.cell? ⟨gb351, 16, none⟩ = some (.int .i64 a0_16) := (blk_cell BK351.out 16).trans rfl
              have hcz45_17 : wr.cell? ⟨gb351, 17, none⟩ = some (.slice A0_17 l0_17.length c0_17) := (blk_cell BK351.out 17).trans rfl
              have hcz45_18 : wr.cell? ⟨gb351, 18, none⟩ = some (.string a0_18) := (blk_cell BK351.out 18).trans rfl
              have hfz45_0 := blk_frozen BK351.out 0
              have hfz45_1 := blk_frozen BK351.out 1
              have hfz45_2 := blk_frozen BK351.out 2
              have hfz45_3 := blk_frozen BK351.out 3
              have hfz45_4 := blk_frozen BK351.out 4
              have hfz45_5 := blk_frozen BK351.out 5
              have hfz45_6 := blk_frozen BK351.out 6
              have hfz45_7 := blk_frozen BK351.out 7
              have hfz45_8 := blk_frozen BK351.out 8
              have hfz45_9 := blk_frozen BK351.out 9
              have hfz45_10 := blk_frozen BK351.out 10
              have hfz45_11 := blk_frozen BK351.out 11
              have hfz45_12 := blk_frozen BK351.out 12
              have hfz45_13 := blk_frozen BK351.out 13
              have hfz45_14 := blk_frozen BK351.out 14
              have hfz45_15 := blk_frozen BK351.out 15
              have hfz45_16 := blk_frozen BK351.out 16
              have hfz45_17 := blk_frozen BK351.out 17
              have hfz45_18 := blk_frozen BK351.out 18
              go_wp2
              repeat (go_quiet (fail); try go_wp2)
              go_ret
              exact ⟨by first | rfl | (simp [errW_none, errW_some] <;> rfl) | (simp [*, errW_none, errW_some] <;> rfl), by repeat (first | (with_reducible first | exact HB.out | apply below_alloc | apply pw_below_drewN | apply below_drew1 | refine below_set ?_ GE351.out | refine below_set ?_ GE352.out) | exact HB.out)⟩

end Go.Proofs.Ytclikkhkhoicfaa.X
