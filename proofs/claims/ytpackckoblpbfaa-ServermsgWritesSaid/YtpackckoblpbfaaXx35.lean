/- What each Go function that these laws use answers: as a Lean function, with the proof that the machine's call comes to it. Written by a program of this session (xprint.py). -/
import Derived.Test.YtpackckoblpbfaaXx0
import Derived.Test.YtpackckoblpbfaaXx8
import Derived.Test.YtpackckoblpbfaaXx12
import Derived.Test.YtpackckoblpbfaaXx13
import Derived.Test.YtpackckoblpbfaaXx14
import Derived.Test.YtpackckoblpbfaaXx21
import Derived.Test.YtpackckoblpbfaaXx24
import Derived.Test.YtpackckoblpbfaaXx30
import Derived.Test.YtpackckoblpbfaaXx31
import Derived.Test.YtpackckoblpbfaaXx32
import Derived.Test.YtpackckoblpbfaaXx33
import Derived.Test.YtpackckoblpbfaaXx34
namespace Go.Proofs.Ytpackckoblpbfaa.X
open Go.RowKit Go.Proofs.YtpackckoblpbfaaW.PrintWords Go.Proofs.YtpackckoblpbfaaW.PrintLast Go.Proofs.YtpackckoblpbfaaW.PrintMore
attribute [local go_sem] max2_int min2_int max_two min_two max_three min_three max_four min_four   -- for this text's walks alone
set_option linter.unusedVariables false
set_option linter.unusedSimpArgs false

/-! ### miradorlaw23_ServermsgWrites: function 3 -/
def miradorlaw23_ServermsgWrites.j0 : Nat → List Int → ByteArray → Bool → Bool → Int → Int → Int → Int → Bool → Bool → Int → Int → Int → Int → Int → Int → ByteArray → Int → Int → Int → Int → Int → Int → Bool → Int → Int → Int → Int → Int → Int → Int → Bool → Bool → Int → Int → Int → Int → Int → Int → List Int → ByteArray → Option (Bool)
 | 0, _, _, _, _, _, _, _, _, _, _, _, _, _, _, _, _, _, _, _, _, _, _, _, _, _, _, _, _, _, _, _, _, _, _, _, _, _, _, _, _, _ => none
 | k + 1, x0, x1, x11, x50, x355000, x355001, x355002, x355003, x355004, x355005, x355006, x355007, x355008, x355009, x355010, x355011, x355012, x356000, x356001, x356002, x356003, x356004, x357000, x357001, x357002, x357003, x357004, x357005, x357006, x357007, x357008, x357009, x357010, x357011, x357012, x357013, x357014, x357015, x357016, x357017, x357018 => if x50 = true then (some x11) else ((servermsg_Kinds.f x0).bind fun bt358 => ((miradorref23_Kinds.f k x0).bind fun bt360 => ((servermsg_Bytes.f x355000 x355001 x355002 x355003 x355004 x355005 x355006 x355007 x355008 x355009 x355010 x355011 x355012).bind fun bt362 => ((miradorref23_Bytes.f k x355000 x355001 x355002 x355003 x355004 x355005 x355006 x355007 x355008 x355009 x355010 x355011 x355012).bind fun bt364 => ((servermsg_Put.f x356000 x356001 x356002 x356003 x356004).bind fun bt366 => ((miradorref23_Put.f k x356000 x356001 x356002 x356003 x356004).bind fun bt368 => ((servermsg_Say.f x357000 x357001 x357002 x357003 x357004 x357005 x357006 x357007 x357008 x357009 x357010 x357011 x357012 x357013 x357014 x357015 x357016 x357017 x357018).bind fun bt370 => ((miradorref23_Say.f k x357000 x357001 x357002 x357003 x357004 x357005 x357006 x357007 x357008 x357009 x357010 x357011 x357012 x357013 x357014 x357015 x357016 x357017 x357018).bind fun bt372 => (if x11 = true then (if bt358.1.toList = bt360.1.toList then (if bt358.2 = bt360.2 then (if bt362.1.toList = bt364.1.toList then (if bt362.2 = bt364.2 then (if bt366.1.toList = bt368.1.toList then (if bt366.2 = bt368.2 then (if bt370.1.toList = bt372.1.toList then (if bt370.2 = bt372.2 then ((servermsg_Result.f x1).bind fun t374 => ((miradorref23_Result.f k x1).bind fun t375 => (some (t374.toList == t375.toList)))) else (some false)) else (some false)) else (some false)) else (some false)) else (some false)) else (some false)) else (some false)) else (some false)) else (some false))))))))))
def miradorlaw23_ServermsgWrites.f (k : Nat) (l0 : List Int) (a1 : ByteArray) (a2_0 : Int) (a2_1 : Int) (a2_2 : Int) (a2_3 : Int) (a2_4 : Bool) (a2_5 : Bool) (a2_6 : Int) (a2_7 : Int) (a2_8 : Int) (a2_9 : Int) (a2_10 : Int) (a2_11 : Int) (a2_12 : ByteArray) (a3_0 : Int) (a3_1 : Int) (a3_2 : Int) (a3_3 : Int) (a3_4 : Int) (a4_0 : Int) (a4_1 : Bool) (a4_2 : Int) (a4_3 : Int) (a4_4 : Int) (a4_5 : Int) (a4_6 : Int) (a4_7 : Int) (a4_8 : Int) (a4_9 : Bool) (a4_10 : Bool) (a4_11 : Int) (a4_12 : Int) (a4_13 : Int) (a4_14 : Int) (a4_15 : Int) (a4_16 : Int) (l4_17 : List Int) (a4_18 : ByteArray) : Option (Bool) := (miradorlaw23_works.f).bind fun t357 => (if t357 = true then (if (l0.length : Int) > 300 then (miradorlaw23_ServermsgWrites.j0 k l0 a1 t357 true a2_0 a2_1 a2_2 a2_3 a2_4 a2_5 a2_6 a2_7 a2_8 a2_9 a2_10 a2_11 a2_12 a3_0 a3_1 a3_2 a3_3 a3_4 a4_0 a4_1 a4_2 a4_3 a4_4 a4_5 a4_6 a4_7 a4_8 a4_9 a4_10 a4_11 a4_12 a4_13 a4_14 a4_15 a4_16 l4_17 a4_18) else (if (a1.size : Int) > 5000 then (miradorlaw23_ServermsgWrites.j0 k l0 a1 t357 true a2_0 a2_1 a2_2 a2_3 a2_4 a2_5 a2_6 a2_7 a2_8 a2_9 a2_10 a2_11 a2_12 a3_0 a3_1 a3_2 a3_3 a3_4 a4_0 a4_1 a4_2 a4_3 a4_4 a4_5 a4_6 a4_7 a4_8 a4_9 a4_10 a4_11 a4_12 a4_13 a4_14 a4_15 a4_16 l4_17 a4_18) else (if (a2_12.size : Int) > 5000 then (miradorlaw23_ServermsgWrites.j0 k l0 a1 t357 true a2_0 a2_1 a2_2 a2_3 a2_4 a2_5 a2_6 a2_7 a2_8 a2_9 a2_10 a2_11 a2_12 a3_0 a3_1 a3_2 a3_3 a3_4 a4_0 a4_1 a4_2 a4_3 a4_4 a4_5 a4_6 a4_7 a4_8 a4_9 a4_10 a4_11 a4_12 a4_13 a4_14 a4_15 a4_16 l4_17 a4_18) else (miradorlaw23_ServermsgWrites.j0 k l0 a1 t357 (decide ((a4_18.size : Int) > 5000)) a2_0 a2_1 a2_2 a2_3 a2_4 a2_5 a2_6 a2_7 a2_8 a2_9 a2_10 a2_11 a2_12 a3_0 a3_1 a3_2 a3_3 a3_4 a4_0 a4_1 a4_2 a4_3 a4_4 a4_5 a4_6 a4_7 a4_8 a4_9 a4_10 a4_11 a4_12 a4_13 a4_14 a4_15 a4_16 l4_17 a4_18)))) else (some false))
theorem miradorlaw23_ServermsgWrites.mono_l : ∀ k, (∀ y0 y1 y2 y3 y4 y5 y6 y7 y8 y9 y10 y11 y12 y13 y14 y15 y16 y17 y18 y19 y20 y21 y22 y23 y24 y25 y26 y27 y28 y29 y30 y31 y32 y33 y34 y35 y36 y37 y38 y39 y40, LeO (miradorlaw23_ServermsgWrites.j0 k y0 y1 y2 y3 y4 y5 y6 y7 y8 y9 y10 y11 y12 y13 y14 y15 y16 y17 y18 y19 y20 y21 y22 y23 y24 y25 y26 y27 y28 y29 y30 y31 y32 y33 y34 y35 y36 y37 y38 y39 y40) (miradorlaw23_ServermsgWrites.j0 (k + 1) y0 y1 y2 y3 y4 y5 y6 y7 y8 y9 y10 y11 y12 y13 y14 y15 y16 y17 y18 y19 y20 y21 y22 y23 y24 y25 y26 y27 y28 y29 y30 y31 y32 y33 y34 y35 y36 y37 y38 y39 y40))
 | 0 => fun _ _ _ _ _ _ _ _ _ _ _ _ _ _ _ _ _ _ _ _ _ _ _ _ _ _ _ _ _ _ _ _ _ _ _ _ _ _ _ _ _ r h => by simp [miradorlaw23_ServermsgWrites.j0] at h
 | k + 1 => by
  have ih0 := miradorlaw23_ServermsgWrites.mono_l k
  ·intro y0 y1 y2 y3 y4 y5 y6 y7 y8 y9 y10 y11 y12 y13 y14 y15 y16 y17 y18 y19 y20 y21 y22 y23 y24 y25 y26 y27 y28 y29 y30 y31 y32 y33 y34 y35 y36 y37 y38 y39 y40
   unfold miradorlaw23_ServermsgWrites.j0
   repeat' first
   | (with_reducible exact ih0 _ _ _ _ _ _ _ _ _ _ _ _ _ _ _ _ _ _ _ _ _ _ _ _ _ _ _ _ _ _ _ _ _ _ _ _ _ _ _ _ _)
   | (with_reducible exact miradorref23_Bytes.mono _ _ _ _ _ _ _ _ _ _ _ _ _ _)
   | (with_reducible exact miradorref23_Kinds.mono _ _)
   | (with_reducible exact miradorref23_Put.mono _ _ _ _ _ _)
   | (with_reducible exact miradorref23_Result.mono _ _)
   | (with_reducible exact miradorref23_Say.mono _ _ _ _ _ _ _ _ _ _ _ _ _ _ _ _ _ _ _ _)
   | (with_reducible exact LeO.refl _)
   | (with_reducible exact LeO.none _)
   | (with_reducible refine LeO.ite ?_ ?_)
   | (with_reducible refine LeO.bind ?_ (fun _ => ?_))
   | exact ih0 _ _ _ _ _ _ _ _ _ _ _ _ _ _ _ _ _ _ _ _ _ _ _ _ _ _ _ _ _ _ _ _ _ _ _ _ _ _ _ _ _
   | exact miradorref23_Bytes.mono _ _ _ _ _ _ _ _ _ _ _ _ _ _
   | exact miradorref23_Kinds.mono _ _
   | exact miradorref23_Put.mono _ _ _ _ _ _
   | exact miradorref23_Result.mono _ _
   | exact miradorref23_Say.mono _ _ _ _ _ _ _ _ _ _ _ _ _ _ _ _ _ _ _ _
   | exact LeO.none _
   | refine LeO.ite ?_ ?_
   | refine LeO.bind ?_ (fun _ => ?_)
theorem miradorlaw23_ServermsgWrites.mono : ∀ a0 a1 a2 a3 a4 a5 a6 a7 a8 a9 a10 a11 a12 a13 a14 a15 a16 a17 a18 a19 a20 a21 a22 a23 a24 a25 a26 a27 a28 a29 a30 a31 a32 a33 a34 a35 a36 a37 a38 k, LeO (miradorlaw23_ServermsgWrites.f k a0 a1 a2 a3 a4 a5 a6 a7 a8 a9 a10 a11 a12 a13 a14 a15 a16 a17 a18 a19 a20 a21 a22 a23 a24 a25 a26 a27 a28 a29 a30 a31 a32 a33 a34 a35 a36 a37 a38) (miradorlaw23_ServermsgWrites.f (k + 1) a0 a1 a2 a3 a4 a5 a6 a7 a8 a9 a10 a11 a12 a13 a14 a15 a16 a17 a18 a19 a20 a21 a22 a23 a24 a25 a26 a27 a28 a29 a30 a31 a32 a33 a34 a35 a36 a37 a38) := by
 intro a0 a1 a2 a3 a4 a5 a6 a7 a8 a9 a10 a11 a12 a13 a14 a15 a16 a17 a18 a19 a20 a21 a22 a23 a24 a25 a26 a27 a28 a29 a30 a31 a32 a33 a34 a35 a36 a37 a38 k
 have ih0 := miradorlaw23_ServermsgWrites.mono_l k
 unfold miradorlaw23_ServermsgWrites.f
 repeat' first
   | (with_reducible exact ih0 _ _ _ _ _ _ _ _ _ _ _ _ _ _ _ _ _ _ _ _ _ _ _ _ _ _ _ _ _ _ _ _ _ _ _ _ _ _ _ _ _)
   | (with_reducible exact miradorref23_Bytes.mono _ _ _ _ _ _ _ _ _ _ _ _ _ _)
   | (with_reducible exact miradorref23_Kinds.mono _ _)
   | (with_reducible exact miradorref23_Put.mono _ _ _ _ _ _)
   | (with_reducible exact miradorref23_Result.mono _ _)
   | (with_reducible exact miradorref23_Say.mono _ _ _ _ _ _ _ _ _ _ _ _ _ _ _ _ _ _ _ _)
   | (with_reducible exact LeO.refl _)
   | (with_reducible exact LeO.none _)
   | (with_reducible refine LeO.ite ?_ ?_)
   | (with_reducible refine LeO.bind ?_ (fun _ => ?_))
   | exact ih0 _ _ _ _ _ _ _ _ _ _ _ _ _ _ _ _ _ _ _ _ _ _ _ _ _ _ _ _ _ _ _ _ _ _ _ _ _ _ _ _ _
   | exact miradorref23_Bytes.mono _ _ _ _ _ _ _ _ _ _ _ _ _ _
   | exact miradorref23_Kinds.mono _ _
   | exact miradorref23_Put.mono _ _ _ _ _ _
   | exact miradorref23_Result.mono _ _
   | exact miradorref23_Say.mono _ _ _ _ _ _ _ _ _ _ _ _ _ _ _ _ _ _ _ _
   | exact LeO.none _
   | refine LeO.ite ?_ ?_
   | refine LeO.bind ?_ (fun _ => ?_)
theorem exec_load_L26 (ρ : Operand → Value) (d : Option Tmp) (x : Operand) (ty : TypeId) (ps : String) (af : Array Edge) (gd : Option (Nat × Bool)) (P : Program) (W : World) : (execOp ρ ⟨d, .load 26 x, ty, ps, af, gd⟩).run P W = ldOut P 26 W (ρ x) := rfl
theorem load_L26 (W : World) (g : Nat) (h : rowAt W g 26 13 = true) : ldOut Try.prog 26 W (.pointer (some ⟨g, 0, none⟩)) = .ok (.value (.agg (cellsAt W g))) W := ldOut_any Try.underlying26 rfl (by kernel_rfl) W g h
attribute [local go_sem ↓] exec_load_L26
attribute [local go_sem] load_L26
theorem exec_load_L33 (ρ : Operand → Value) (d : Option Tmp) (x : Operand) (ty : TypeId) (ps : String) (af : Array Edge) (gd : Option (Nat × Bool)) (P : Program) (W : World) : (execOp ρ ⟨d, .load 33 x, ty, ps, af, gd⟩).run P W = ldOut P 33 W (ρ x) := rfl
theorem load_L33 (W : World) (g : Nat) (h : rowAt W g 33 19 = true) : ldOut Try.prog 33 W (.pointer (some ⟨g, 0, none⟩)) = .ok (.value (.agg (cellsAt W g))) W := ldOut_any Try.underlying33 rfl (by kernel_rfl) W g h
attribute [local go_sem ↓] exec_load_L33
attribute [local go_sem] load_L33
theorem exec_load_L30 (ρ : Operand → Value) (d : Option Tmp) (x : Operand) (ty : TypeId) (ps : String) (af : Array Edge) (gd : Option (Nat × Bool)) (P : Program) (W : World) : (execOp ρ ⟨d, .load 30 x, ty, ps, af, gd⟩).run P W = ldOut P 30 W (ρ x) := rfl
theorem load_L30 (W : World) (g : Nat) (h : rowAt W g 30 5 = true) : ldOut Try.prog 30 W (.pointer (some ⟨g, 0, none⟩)) = .ok (.value (.agg (cellsAt W g))) W := ldOut_any Try.underlying30 rfl (by kernel_rfl) W g h
attribute [local go_sem ↓] exec_load_L30
attribute [local go_sem] load_L30
set_option maxHeartbeats 8000000 in
set_option maxRecDepth 100000 in
theorem miradorlaw23_ServermsgWrites.calls1 (k : Nat) (A0 : Option Addr) (c0 : Nat) (l0 : List Int) (a1 : ByteArray) (a2_0 : Int) (a2_1 : Int) (a2_2 : Int) (a2_3 : Int) (a2_4 : Bool) (a2_5 : Bool) (a2_6 : Int) (a2_7 : Int) (a2_8 : Int) (a2_9 : Int) (a2_10 : Int) (a2_11 : Int) (a2_12 : ByteArray) (a3_0 : Int) (a3_1 : Int) (a3_2 : Int) (a3_3 : Int) (a3_4 : Int) (a4_0 : Int) (a4_1 : Bool) (a4_2 : Int) (a4_3 : Int) (a4_4 : Int) (a4_5 : Int) (a4_6 : Int) (a4_7 : Int) (a4_8 : Int) (a4_9 : Bool) (a4_10 : Bool) (a4_11 : Int) (a4_12 : Int) (a4_13 : Int) (a4_14 : Int) (a4_15 : Int) (a4_16 : Int) (A4_17 : Option Addr) (c4_17 : Nat) (l4_17 : List Int) (a4_18 : ByteArray) (r : Bool) (w : World) (hr0 : Kd.C (Kd.int .i64) w A0 l0.length l0) (hc0 : l0.length ≤ c0) (hr4_17 : Kd.C (Kd.int .i64) w A4_17 l4_17.length l4_17) (hc4_17 : l4_17.length ≤ c4_17) (hr_ : r = true) (h : miradorlaw23_ServermsgWrites.f k l0 a1 a2_0 a2_1 a2_2 a2_3 a2_4 a2_5 a2_6 a2_7 a2_8 a2_9 a2_10 a2_11 a2_12 a3_0 a3_1 a3_2 a3_3 a3_4 a4_0 a4_1 a4_2 a4_3 a4_4 a4_5 a4_6 a4_7 a4_8 a4_9 a4_10 a4_11 a4_12 a4_13 a4_14 a4_15 a4_16 l4_17 a4_18 = some r) :
  Calls Try.prog 3 #[.slice A0 l0.length c0, .string a1, .agg #[.int .i64 a2_0, .int .i64 a2_1, .int .i64 a2_2, .int .i64 a2_3, .bool a2_4, .bool a2_5, .int .i64 a2_6, .int .i64 a2_7, .int .i64 a2_8, .int .i64 a2_9, .int .i64 a2_10, .int .i64 a2_11, .string a2_12], .agg #[.int .i64 a3_0, .int .i64 a3_1, .int .i64 a3_2, .int .i64 a3_3, .int .i64 a3_4], .agg #[.int .i64 a4_0, .bool a4_1, .int .i64 a4_2, .int .i64 a4_3, .int .i64 a4_4, .int .i64 a4_5, .int .i64 a4_6, .int .i64 a4_7, .int .i64 a4_8, .bool a4_9, .bool a4_10, .int .i64 a4_11, .int .i64 a4_12, .int .i64 a4_13, .int .i64 a4_14, .int .i64 a4_15, .int .i64 a4_16, .slice A4_17 l4_17.length c4_17, .string a4_18]] w fun e w' => e = .returned (.bool r) ∧ Below w.heap.size w w' := by
 have hu26 := Try.underlying26
 have hu30 := Try.underlying30
 have hu33 := Try.underlying33
 have hu24 := Try.underlying24
 have hu42 := Try.underlying42
 have hu28 := Try.underlying28
 have HR0 := Aside0.mk hr0
 have HC0 := Aside0.mk hc0
 clear hr0 hc0
 have HR4_17 := Aside0.mk hr4_17
 have HC4_17 := Aside0.mk hc4_17
 clear hr4_17 hc4_17
 have HB := Aside0.mk (Below.refl w.heap.size w)
 have H : ((miradorlaw23_works.f).bind fun t357 => (if t357 = true then (if (l0.length : Int) > 300 then (miradorlaw23_ServermsgWrites.j0 k l0 a1 t357 true a2_0 a2_1 a2_2 a2_3 a2_4 a2_5 a2_6 a2_7 a2_8 a2_9 a2_10 a2_11 a2_12 a3_0 a3_1 a3_2 a3_3 a3_4 a4_0 a4_1 a4_2 a4_3 a4_4 a4_5 a4_6 a4_7 a4_8 a4_9 a4_10 a4_11 a4_12 a4_13 a4_14 a4_15 a4_16 l4_17 a4_18) else (if (a1.size : Int) > 5000 then (miradorlaw23_ServermsgWrites.j0 k l0 a1 t357 true a2_0 a2_1 a2_2 a2_3 a2_4 a2_5 a2_6 a2_7 a2_8 a2_9 a2_10 a2_11 a2_12 a3_0 a3_1 a3_2 a3_3 a3_4 a4_0 a4_1 a4_2 a4_3 a4_4 a4_5 a4_6 a4_7 a4_8 a4_9 a4_10 a4_11 a4_12 a4_13 a4_14 a4_15 a4_16 l4_17 a4_18) else (if (a2_12.size : Int) > 5000 then (miradorlaw23_ServermsgWrites.j0 k l0 a1 t357 true a2_0 a2_1 a2_2 a2_3 a2_4 a2_5 a2_6 a2_7 a2_8 a2_9 a2_10 a2_11 a2_12 a3_0 a3_1 a3_2 a3_3 a3_4 a4_0 a4_1 a4_2 a4_3 a4_4 a4_5 a4_6 a4_7 a4_8 a4_9 a4_10 a4_11 a4_12 a4_13 a4_14 a4_15 a4_16 l4_17 a4_18) else (miradorlaw23_ServermsgWrites.j0 k l0 a1 t357 (decide ((a4_18.size : Int) > 5000)) a2_0 a2_1 a2_2 a2_3 a2_4 a2_5 a2_6 a2_7 a2_8 a2_9 a2_10 a2_11 a2_12 a3_0 a3_1 a3_2 a3_3 a3_4 a4_0 a4_1 a4_2 a4_3 a4_4 a4_5 a4_6 a4_7 a4_8 a4_9 a4_10 a4_11 a4_12 a4_13 a4_14 a4_15 a4_16 l4_17 a4_18)))) else (some false))) = some r := h
 clear h
 have HRT := Aside0.mk hr_
 clear hr_
 replace H := Option.bind_eq_some_iff.mp H
 obtain ⟨t357, A60, H⟩ := H
 replace H : (if t357 = true then (if (l0.length : Int) > 300 then (miradorlaw23_ServermsgWrites.j0 k l0 a1 t357 true a2_0 a2_1 a2_2 a2_3 a2_4 a2_5 a2_6 a2_7 a2_8 a2_9 a2_10 a2_11 a2_12 a3_0 a3_1 a3_2 a3_3 a3_4 a4_0 a4_1 a4_2 a4_3 a4_4 a4_5 a4_6 a4_7 a4_8 a4_9 a4_10 a4_11 a4_12 a4_13 a4_14 a4_15 a4_16 l4_17 a4_18) else (if (a1.size : Int) > 5000 then (miradorlaw23_ServermsgWrites.j0 k l0 a1 t357 true a2_0 a2_1 a2_2 a2_3 a2_4 a2_5 a2_6 a2_7 a2_8 a2_9 a2_10 a2_11 a2_12 a3_0 a3_1 a3_2 a3_3 a3_4 a4_0 a4_1 a4_2 a4_3 a4_4 a4_5 a4_6 a4_7 a4_8 a4_9 a4_10 a4_11 a4_12 a4_13 a4_14 a4_15 a4_16 l4_17 a4_18) else (if (a2_12.size : Int) > 5000 then (miradorlaw23_ServermsgWrites.j0 k l0 a1 t357 true a2_0 a2_1 a2_2 a2_3 a2_4 a2_5 a2_6 a2_7 a2_8 a2_9 a2_10 a2_11 a2_12 a3_0 a3_1 a3_2 a3_3 a3_4 a4_0 a4_1 a4_2 a4_3 a4_4 a4_5 a4_6 a4_7 a4_8 a4_9 a4_10 a4_11 a4_12 a4_13 a4_14 a4_15 a4_16 l4_17 a4_18) else (miradorlaw23_ServermsgWrites.j0 k l0 a1 t357 (decide ((a4_18.size : Int) > 5000)) a2_0 a2_1 a2_2 a2_3 a2_4 a2_5 a2_6 a2_7 a2_8 a2_9 a2_10 a2_11 a2_12 a3_0 a3_1 a3_2 a3_3 a3_4 a4_0 a4_1 a4_2 a4_3 a4_4 a4_5 a4_6 a4_7 a4_8 a4_9 a4_10 a4_11 a4_12 a4_13 a4_14 a4_15 a4_16 l4_17 a4_18)))) else (some false)) = some r := H
 have A6 := Aside0.mk A60
 clear A60
 by_cases c7 : t357 = true
 ·subst c7
  have H1 : (if (l0.length : Int) > 300 then (miradorlaw23_ServermsgWrites.j0 k l0 a1 true true a2_0 a2_1 a2_2 a2_3 a2_4 a2_5 a2_6 a2_7 a2_8 a2_9 a2_10 a2_11 a2_12 a3_0 a3_1 a3_2 a3_3 a3_4 a4_0 a4_1 a4_2 a4_3 a4_4 a4_5 a4_6 a4_7 a4_8 a4_9 a4_10 a4_11 a4_12 a4_13 a4_14 a4_15 a4_16 l4_17 a4_18) else (if (a1.size : Int) > 5000 then (miradorlaw23_ServermsgWrites.j0 k l0 a1 true true a2_0 a2_1 a2_2 a2_3 a2_4 a2_5 a2_6 a2_7 a2_8 a2_9 a2_10 a2_11 a2_12 a3_0 a3_1 a3_2 a3_3 a3_4 a4_0 a4_1 a4_2 a4_3 a4_4 a4_5 a4_6 a4_7 a4_8 a4_9 a4_10 a4_11 a4_12 a4_13 a4_14 a4_15 a4_16 l4_17 a4_18) else (if (a2_12.size : Int) > 5000 then (miradorlaw23_ServermsgWrites.j0 k l0 a1 true true a2_0 a2_1 a2_2 a2_3 a2_4 a2_5 a2_6 a2_7 a2_8 a2_9 a2_10 a2_11 a2_12 a3_0 a3_1 a3_2 a3_3 a3_4 a4_0 a4_1 a4_2 a4_3 a4_4 a4_5 a4_6 a4_7 a4_8 a4_9 a4_10 a4_11 a4_12 a4_13 a4_14 a4_15 a4_16 l4_17 a4_18) else (miradorlaw23_ServermsgWrites.j0 k l0 a1 true (decide ((a4_18.size : Int) > 5000)) a2_0 a2_1 a2_2 a2_3 a2_4 a2_5 a2_6 a2_7 a2_8 a2_9 a2_10 a2_11 a2_12 a3_0 a3_1 a3_2 a3_3 a3_4 a4_0 a4_1 a4_2 a4_3 a4_4 a4_5 a4_6 a4_7 a4_8 a4_9 a4_10 a4_11 a4_12 a4_13 a4_14 a4_15 a4_16 l4_17 a4_18)))) = some r := by rw [if_pos rfl] at H; exact H
  clear H
  have H := H1
  clear H1
  have HC8 := Aside0.mk H
  clear H
  go_enter Try.func3, Try.ntmps3
  go_upto_region 4 with (first | ((with_reducible refine gate_dst (N := 7) rfl ?_); (try (refine gate_guard (by rfl) ?_; dsimp only)); refine box_event ?hg (N := 7) ?hd (cs := #[.int .i64 a2_0, .int .i64 a2_1, .int .i64 a2_2, .int .i64 a2_3, .bool a2_4, .bool a2_5, .int .i64 a2_6, .int .i64 a2_7, .int .i64 a2_8, .int .i64 a2_9, .int .i64 a2_10, .int .i64 a2_11, .string a2_12]) (t := 26) ?hr ?_; (case hd => rfl); (case hg => rfl); (case hr => first | (go_simp; done) | (go_simp; rfl)); intro gb354 hg w9 hbox hb; have n0_ := Aside0.mk (below_step (by repeat (first | (with_reducible first | exact HB.out | apply below_alloc | apply pw_below_drewN | apply below_drew1) | exact HB.out)) hb); have n1_ := Aside0.mk (hbox); have n2_ := Aside0.mk ((by rw [hg]; exact (below_size (by repeat (first | (with_reducible first | exact HB.out | apply below_alloc | apply pw_below_drewN | apply below_drew1) | exact HB.out))) : w.heap.size ≤ gb354)); have n3_ := Aside0.mk ((by rw [hg]; exact (below_size (by repeat (first | (with_reducible first | exact HB.out | apply below_alloc | apply pw_below_drewN | apply below_drew1) | exact HB.out))) : w.heap.size ≤ gb354)); clear HB; have HB := n0_; have BK354 := n1_; have GW354 := n2_; have GE354 := n3_; clear n0_ n1_ n2_ n3_; clear hb hbox hg) | ((with_reducible refine gate_dst (N := 8) rfl ?_); (try (refine gate_guard (by rfl) ?_; dsimp only)); refine box_event ?hg (N := 8) ?hd (cs := #[.int .i64 a3_0, .int .i64 a3_1, .int .i64 a3_2, .int .i64 a3_3, .int .i64 a3_4]) (t := 30) ?hr ?_; (case hd => rfl); (case hg => rfl); (case hr => first | (go_simp; done) | (go_simp; rfl)); intro gb355 hg w10 hbox hb; have n0_ := Aside0.mk (blk_below (g := gb354) (o := .cells #[.int .i64 a2_0, .int .i64 a2_1, .int .i64 a2_2, .int .i64 a2_3, .bool a2_4, .bool a2_5, .int .i64 a2_6, .int .i64 a2_7, .int .i64 a2_8, .int .i64 a2_9, .int .i64 a2_10, .int .i64 a2_11, .string a2_12] 26 (0, 0)) (by (with_reducible repeat (first | refine blk_drewN ?_ _ | refine blk_drew ?_ | refine blk_alloc ?_ _)); exact BK354.out) hb); have n1_ := Aside0.mk (below_step (by repeat (first | (with_reducible first | exact HB.out | apply below_alloc | apply pw_below_drewN | apply below_drew1 | refine below_set ?_ GE354.out) | exact HB.out)) hb); have n2_ := Aside0.mk (hbox); have n3_ := Aside0.mk ((by rw [hg]; exact (below_size (by repeat (first | (with_reducible first | exact HB.out | apply below_alloc | apply pw_below_drewN | apply below_drew1 | refine below_set ?_ GE354.out) | exact HB.out))) : w.heap.size ≤ gb355)); have n4_ := Aside0.mk ((by rw [hg]; exact (below_size (by repeat (first | (with_reducible first | exact HB.out | apply below_alloc | apply pw_below_drewN | apply below_drew1 | refine below_set ?_ GE354.out) | exact HB.out))) : w.heap.size ≤ gb355)); have n5_ := Aside0.mk ((by rw [hg]; exact Nat.ne_of_lt (blk_lt (g := gb354) (o := .cells #[.int .i64 a2_0, .int .i64 a2_1, .int .i64 a2_2, .int .i64 a2_3, .bool a2_4, .bool a2_5, .int .i64 a2_6, .int .i64 a2_7, .int .i64 a2_8, .int .i64 a2_9, .int .i64 a2_10, .int .i64 a2_11, .string a2_12] 26 (0, 0)) (by (with_reducible repeat (first | refine blk_drewN ?_ _ | refine blk_drew ?_ | refine blk_alloc ?_ _)); exact BK354.out)) : gb354 ≠ gb355)); have n6_ := Aside0.mk ((by rw [hg]; exact Nat.ne_of_gt (blk_lt (g := gb354) (o := .cells #[.int .i64 a2_0, .int .i64 a2_1, .int .i64 a2_2, .int .i64 a2_3, .bool a2_4, .bool a2_5, .int .i64 a2_6, .int .i64 a2_7, .int .i64 a2_8, .int .i64 a2_9, .int .i64 a2_10, .int .i64 a2_11, .string a2_12] 26 (0, 0)) (by (with_reducible repeat (first | refine blk_drewN ?_ _ | refine blk_drew ?_ | refine blk_alloc ?_ _)); exact BK354.out)) : gb355 ≠ gb354)); clear BK354; clear HB; have BK354 := n0_; have HB := n1_; have BK355 := n2_; have GW355 := n3_; have GE355 := n4_; have NB354_355 := n5_; have NB355_354 := n6_; clear n0_ n1_ n2_ n3_ n4_ n5_ n6_; clear hb hbox hg) | ((with_reducible refine gate_dst (N := 9) rfl ?_); (try (refine gate_guard (by rfl) ?_; dsimp only)); refine box_event ?hg (N := 9) ?hd (cs := #[.int .i64 a4_0, .bool a4_1, .int .i64 a4_2, .int .i64 a4_3, .int .i64 a4_4, .int .i64 a4_5, .int .i64 a4_6, .int .i64 a4_7, .int .i64 a4_8, .bool a4_9, .bool a4_10, .int .i64 a4_11, .int .i64 a4_12, .int .i64 a4_13, .int .i64 a4_14, .int .i64 a4_15, .int .i64 a4_16, .slice A4_17 l4_17.length c4_17, .string a4_18]) (t := 33) ?hr ?_; (case hd => rfl); (case hg => rfl); (case hr => first | (go_simp; done) | (go_simp; rfl)); intro gb356 hg w11 hbox hb; have n0_ := Aside0.mk (blk_below (g := gb354) (o := .cells #[.int .i64 a2_0, .int .i64 a2_1, .int .i64 a2_2, .int .i64 a2_3, .bool a2_4, .bool a2_5, .int .i64 a2_6, .int .i64 a2_7, .int .i64 a2_8, .int .i64 a2_9, .int .i64 a2_10, .int .i64 a2_11, .string a2_12] 26 (0, 0)) (by (with_reducible repeat (first | refine blk_drewN ?_ _ | refine blk_drew ?_ | refine blk_alloc ?_ _)); exact BK354.out) hb); have n1_ := Aside0.mk (blk_below (g := gb355) (o := .cells #[.int .i64 a3_0, .int .i64 a3_1, .int .i64 a3_2, .int .i64 a3_3, .int .i64 a3_4] 30 (0, 0)) (by (with_reducible repeat (first | refine blk_drewN ?_ _ | refine blk_drew ?_ | refine blk_alloc ?_ _)); exact BK355.out) hb); have n2_ := Aside0.mk (below_step (by repeat (first | (with_reducible first | exact HB.out | apply below_alloc | apply pw_below_drewN | apply below_drew1 | refine below_set ?_ GE354.out | refine below_set ?_ GE355.out) | exact HB.out)) hb); have n3_ := Aside0.mk (hbox); have n4_ := Aside0.mk ((by rw [hg]; exact (below_size (by repeat (first | (with_reducible first | exact HB.out | apply below_alloc | apply pw_below_drewN | apply below_drew1 | refine below_set ?_ GE354.out | refine below_set ?_ GE355.out) | exact HB.out))) : w.heap.size ≤ gb356)); have n5_ := Aside0.mk ((by rw [hg]; exact (below_size (by repeat (first | (with_reducible first | exact HB.out | apply below_alloc | apply pw_below_drewN | apply below_drew1 | refine below_set ?_ GE354.out | refine below_set ?_ GE355.out) | exact HB.out))) : w.heap.size ≤ gb356)); have n6_ := Aside0.mk ((by rw [hg]; exact Nat.ne_of_lt (blk_lt (g := gb354) (o := .cells #[.int .i64 a2_0, .int .i64 a2_1, .int .i64 a2_2, .int .i64 a2_3, .bool a2_4, .bool a2_5, .int .i64 a2_6, .int .i64 a2_7, .int .i64 a2_8, .int .i64 a2_9, .int .i64 a2_10, .int .i64 a2_11, .string a2_12] 26 (0, 0)) (by (with_reducible repeat (first | refine blk_drewN ?_ _ | refine blk_drew ?_ | refine blk_alloc ?_ _)); exact BK354.out)) : gb354 ≠ gb356)); have n7_ := Aside0.mk ((by rw [hg]; exact Nat.ne_of_gt (blk_lt (g := gb354) (o := .cells #[.int .i64 a2_0, .int .i64 a2_1, .int .i64 a2_2, .int .i64 a2_3, .bool a2_4, .bool a2_5, .int .i64 a2_6, .int .i64 a2_7, .int .i64 a2_8, .int .i64 a2_9, .int .i64 a2_10, .int .i64 a2_11, .string a2_12] 26 (0, 0)) (by (with_reducible repeat (first | refine blk_drewN ?_ _ | refine blk_drew ?_ | refine blk_alloc ?_ _)); exact BK354.out)) : gb356 ≠ gb354)); have n8_ := Aside0.mk ((by rw [hg]; exact Nat.ne_of_lt (blk_lt (g := gb355) (o := .cells #[.int .i64 a3_0, .int .i64 a3_1, .int .i64 a3_2, .int .i64 a3_3, .int .i64 a3_4] 30 (0, 0)) (by (with_reducible repeat (first | refine blk_drewN ?_ _ | refine blk_drew ?_ | refine blk_alloc ?_ _)); exact BK355.out)) : gb355 ≠ gb356)); have n9_ := Aside0.mk ((by rw [hg]; exact Nat.ne_of_gt (blk_lt (g := gb355) (o := .cells #[.int .i64 a3_0, .int .i64 a3_1, .int .i64 a3_2, .int .i64 a3_3, .int .i64 a3_4] 30 (0, 0)) (by (with_reducible repeat (first | refine blk_drewN ?_ _ | refine blk_drew ?_ | refine blk_alloc ?_ _)); exact BK355.out)) : gb356 ≠ gb355)); clear BK354; clear BK355; clear HB; have BK354 := n0_; have BK355 := n1_; have HB := n2_; have BK356 := n3_; have GW356 := n4_; have GE356 := n5_; have NB354_356 := n6_; have NB356_354 := n7_; have NB355_356 := n8_; have NB356_355 := n9_; clear n0_ n1_ n2_ n3_ n4_ n5_ n6_ n7_ n8_ n9_; clear hb hbox hg) | ((with_reducible refine gate_callee (f := 8) rfl ?_); refine goesL_ (some 28) rfl rfl Try.func8 (by kernel_rfl) rfl #[] rfl (by (try simp only [List.map_toArray, List.map_cons, List.map_nil]); first | done | rfl | (simp only [List.length_drop, List.length_take]; rfl)) ?_; (with_reducible refine (miradorlaw23_works.calls  true _ A6.out).mono ?_); rintro e w12 ⟨rfl, hb⟩; refine ⟨_, rfl, ?_⟩; have n0_ := Aside0.mk (blk_below (g := gb354) (o := .cells #[.int .i64 a2_0, .int .i64 a2_1, .int .i64 a2_2, .int .i64 a2_3, .bool a2_4, .bool a2_5, .int .i64 a2_6, .int .i64 a2_7, .int .i64 a2_8, .int .i64 a2_9, .int .i64 a2_10, .int .i64 a2_11, .string a2_12] 26 (0, 0)) (by (with_reducible repeat (first | refine blk_drewN ?_ _ | refine blk_drew ?_ | refine blk_alloc ?_ _)); exact BK354.out) hb); have n1_ := Aside0.mk (blk_below (g := gb355) (o := .cells #[.int .i64 a3_0, .int .i64 a3_1, .int .i64 a3_2, .int .i64 a3_3, .int .i64 a3_4] 30 (0, 0)) (by (with_reducible repeat (first | refine blk_drewN ?_ _ | refine blk_drew ?_ | refine blk_alloc ?_ _)); exact BK355.out) hb); have n2_ := Aside0.mk (blk_below (g := gb356) (o := .cells #[.int .i64 a4_0, .bool a4_1, .int .i64 a4_2, .int .i64 a4_3, .int .i64 a4_4, .int .i64 a4_5, .int .i64 a4_6, .int .i64 a4_7, .int .i64 a4_8, .bool a4_9, .bool a4_10, .int .i64 a4_11, .int .i64 a4_12, .int .i64 a4_13, .int .i64 a4_14, .int .i64 a4_15, .int .i64 a4_16, .slice A4_17 l4_17.length c4_17, .string a4_18] 33 (0, 0)) (by (with_reducible repeat (first | refine blk_drewN ?_ _ | refine blk_drew ?_ | refine blk_alloc ?_ _)); exact BK356.out) hb); have n3_ := Aside0.mk (below_step (by repeat (first | (with_reducible first | exact HB.out | apply below_alloc | apply pw_below_drewN | apply below_drew1 | refine below_set ?_ GE354.out | refine below_set ?_ GE355.out | refine below_set ?_ GE356.out) | exact HB.out)) hb); clear BK354; clear BK355; clear BK356; clear HB; have BK354 := n0_; have BK355 := n1_; have BK356 := n2_; have HB := n3_; clear n0_ n1_ n2_ n3_; (try clear hb); (try clear hb2); (try clear hk); (try clear hi)))
  (try simp only [Act.put, List.setIfInBounds_toArray, List.set_cons_zero, List.set_cons_succ])
  go_cut [50] (fun v50 wc => ∃ (kq : Nat) (x50_7 : Bool), v50 = .bool x50_7 ∧ Aside0 (miradorlaw23_ServermsgWrites.j0 kq l0 a1 true x50_7 a2_0 a2_1 a2_2 a2_3 a2_4 a2_5 a2_6 a2_7 a2_8 a2_9 a2_10 a2_11 a2_12 a3_0 a3_1 a3_2 a3_3 a3_4 a4_0 a4_1 a4_2 a4_3 a4_4 a4_5 a4_6 a4_7 a4_8 a4_9 a4_10 a4_11 a4_12 a4_13 a4_14 a4_15 a4_16 l4_17 a4_18 = some r) ∧ Aside0 (kq ≤ k) ∧ Aside0 (wc.heap[gb354]? = some (.cells #[.int .i64 a2_0, .int .i64 a2_1, .int .i64 a2_2, .int .i64 a2_3, .bool a2_4, .bool a2_5, .int .i64 a2_6, .int .i64 a2_7, .int .i64 a2_8, .int .i64 a2_9, .int .i64 a2_10, .int .i64 a2_11, .string a2_12] 26 (0, 0))) ∧ Aside0 (wc.heap[gb355]? = some (.cells #[.int .i64 a3_0, .int .i64 a3_1, .int .i64 a3_2, .int .i64 a3_3, .int .i64 a3_4] 30 (0, 0))) ∧ Aside0 (wc.heap[gb356]? = some (.cells #[.int .i64 a4_0, .bool a4_1, .int .i64 a4_2, .int .i64 a4_3, .int .i64 a4_4, .int .i64 a4_5, .int .i64 a4_6, .int .i64 a4_7, .int .i64 a4_8, .bool a4_9, .bool a4_10, .int .i64 a4_11, .int .i64 a4_12, .int .i64 a4_13, .int .i64 a4_14, .int .i64 a4_15, .int .i64 a4_16, (.slice A4_17 l4_17.length c4_17), .string a4_18] 33 (0, 0))) ∧ Aside0 (Below w.heap.size w wc))
  case first =>
   have H := HC8.out
   clear HC8
   by_cases c13 : (l0.length : Int) > 300
   ·rw [if_pos c13] at H
    have c13b0 : decide (300 < (l0.length : Int)) = true := decide_eq_true c13
    have c13b1 : decide (300 < l0.length) = true := decide_eq_true (by omega)
    clear c13
    (first | rw [c13b0] | (simp only [i64_w, i32_w]; rw [c13b0]) | skip)
    have H' := Aside0.mk H
    clear H
    go_wp2
    go_meet
    case rel => exact ⟨_, (true), (by first | rfl | (simp; done) | (simp [*]; done)), H', ⟨by first | omega | exact Nat.le_refl _⟩, ⟨by (with_reducible repeat (first | refine blk_drewN ?_ _ | refine blk_drew ?_ | refine blk_alloc ?_ _)); exact BK354.out⟩, ⟨by (with_reducible repeat (first | refine blk_drewN ?_ _ | refine blk_drew ?_ | refine blk_alloc ?_ _)); exact BK355.out⟩, ⟨by (with_reducible repeat (first | refine blk_drewN ?_ _ | refine blk_drew ?_ | refine blk_alloc ?_ _)); exact BK356.out⟩, ⟨by repeat (first | (with_reducible first | exact HB.out | apply below_alloc | apply pw_below_drewN | apply below_drew1 | refine below_set ?_ GE354.out | refine below_set ?_ GE355.out | refine below_set ?_ GE356.out) | exact HB.out)⟩⟩
   ·rw [if_neg c13] at H
    have c13b0 : decide (300 < (l0.length : Int)) = false := decide_eq_false c13
    have c13b1 : decide (300 < l0.length) = false := decide_eq_false (by omega)
    clear c13
    (first | rw [c13b0] | (simp only [i64_w, i32_w]; rw [c13b0]) | skip)
    by_cases c14 : (a1.size : Int) > 5000
    ·rw [if_pos c14] at H
     have c14b0 : decide (5000 < (a1.size : Int)) = true := decide_eq_true c14
     have c14b1 : decide (5000 < a1.size) = true := decide_eq_true (by omega)
     clear c14
     have H' := Aside0.mk H
     clear H
     go_wp2
     go_meet
     case rel => exact ⟨_, (true), (by first | rfl | (simp; done) | (simp [*]; done)), H', ⟨by first | omega | exact Nat.le_refl _⟩, ⟨by (with_reducible repeat (first | refine blk_drewN ?_ _ | refine blk_drew ?_ | refine blk_alloc ?_ _)); exact BK354.out⟩, ⟨by (with_reducible repeat (first | refine blk_drewN ?_ _ | refine blk_drew ?_ | refine blk_alloc ?_ _)); exact BK355.out⟩, ⟨by (with_reducible repeat (first | refine blk_drewN ?_ _ | refine blk_drew ?_ | refine blk_alloc ?_ _)); exact BK356.out⟩, ⟨by repeat (first | (with_reducible first | exact HB.out | apply below_alloc | apply pw_below_drewN | apply below_drew1 | refine below_set ?_ GE354.out | refine below_set ?_ GE355.out | refine below_set ?_ GE356.out) | exact HB.out)⟩⟩
    ·rw [if_neg c14] at H
     have c14b0 : decide (5000 < (a1.size : Int)) = false := decide_eq_false c14
     have c14b1 : decide (5000 < a1.size) = false := decide_eq_false (by omega)
     clear c14
     by_cases c15 : (a2_12.size : Int) > 5000
     ·rw [if_pos c15] at H
      have c15b0 : decide (5000 < (a2_12.size : Int)) = true := decide_eq_true c15
      have c15b1 : decide (5000 < a2_12.size) = true := decide_eq_true (by omega)
      clear c15
      have H' := Aside0.mk H
      clear H
      have hnb16 := NB354_355.out
      have hnc16 := NB355_354.out
      have hnb17 := NB354_356.out
      have hnc17 := NB356_354.out
      have hcz18_0 : w12.cell? ⟨gb354, 0, none⟩ = some (.int .i64 a2_0) := (blk_cell BK354.out 0).trans rfl
      have hcz18_1 : w12.cell? ⟨gb354, 1, none⟩ = some (.int .i64 a2_1) := (blk_cell BK354.out 1).trans rfl
      have hcz18_2 : w12.cell? ⟨gb354, 2, none⟩ = some (.int .i64 a2_2) := (blk_cell BK354.out 2).trans rfl
      have hcz18_3 : w12.cell? ⟨gb354, 3, none⟩ = some (.int .i64 a2_3) := (blk_cell BK354.out 3).trans rfl
      have hcz18_4 : w12.cell? ⟨gb354, 4, none⟩ = some (.bool a2_4) := (blk_cell BK354.out 4).trans rfl
      have hcz18_5 : w12.cell? ⟨gb354, 5, none⟩ = some (.bool a2_5) := (blk_cell BK354.out 5).trans rfl
      have hcz18_6 : w12.cell? ⟨gb354, 6, none⟩ = some (.int .i64 a2_6) := (blk_cell BK354.out 6).trans rfl
      have hcz18_7 : w12.cell? ⟨gb354, 7, none⟩ = some (.int .i64 a2_7) := (blk_cell BK354.out 7).trans rfl
      have hcz18_8 : w12.cell? ⟨gb354, 8, none⟩ = some (.int .i64 a2_8) := (blk_cell BK354.out 8).trans rfl
      have hcz18_9 : w12.cell? ⟨gb354, 9, none⟩ = some (.int .i64 a2_9) := (blk_cell BK354.out 9).trans rfl
      have hcz18_10 : w12.cell? ⟨gb354, 10, none⟩ = some (.int .i64 a2_10) := (blk_cell BK354.out 10).trans rfl
      have hcz18_11 : w12.cell? ⟨gb354, 11, none⟩ = some (.int .i64 a2_11) := (blk_cell BK354.out 11).trans rfl
      have hcz18_12 : w12.cell? ⟨gb354, 12, none⟩ = some (.string a2_12) := (blk_cell BK354.out 12).trans rfl
      have hrw0 : rowAt w12 gb354 26 13 = true := rowAt_of (BK354.out) rfl
      have hrc0 : cellsAt w12 gb354 = #[.int .i64 a2_0, .int .i64 a2_1, .int .i64 a2_2, .int .i64 a2_3, .bool a2_4, .bool a2_5, .int .i64 a2_6, .int .i64 a2_7, .int .i64 a2_8, .int .i64 a2_9, .int .i64 a2_10, .int .i64 a2_11, .string a2_12] := cellsAt_of (BK354.out)
      have hfz18_0 := blk_frozen BK354.out 0
      have hfz18_1 := blk_frozen BK354.out 1
      have hfz18_2 := blk_frozen BK354.out 2
      have hfz18_3 := blk_frozen BK354.out 3
      have hfz18_4 := blk_frozen BK354.out 4
      have hfz18_5 := blk_frozen BK354.out 5
      have hfz18_6 := blk_frozen BK354.out 6
      have hfz18_7 := blk_frozen BK354.out 7
      have hfz18_8 := blk_frozen BK354.out 8
      have hfz18_9 := blk_frozen BK354.out 9
      have hfz18_10 := blk_frozen BK354.out 10
      have hfz18_11 := blk_frozen BK354.out 11
      have hfz18_12 := blk_frozen BK354.out 12
      go_wp2
      go_meet
      case rel => exact ⟨_, (true), (by first | rfl | (simp; done) | (simp [*]; done)), H', ⟨by first | omega | exact Nat.le_refl _⟩, ⟨by (with_reducible repeat (first | refine blk_drewN ?_ _ | refine blk_drew ?_ | refine blk_alloc ?_ _)); exact BK354.out⟩, ⟨by (with_reducible repeat (first | refine blk_drewN ?_ _ | refine blk_drew ?_ | refine blk_alloc ?_ _)); exact BK355.out⟩, ⟨by (with_reducible repeat (first | refine blk_drewN ?_ _ | refine blk_drew ?_ | refine blk_alloc ?_ _)); exact BK356.out⟩, ⟨by repeat (first | (with_reducible first | exact HB.out | apply below_alloc | apply pw_below_drewN | apply below_drew1 | refine below_set ?_ GE354.out | refine below_set ?_ GE355.out | refine below_set ?_ GE356.out) | exact HB.out)⟩⟩
     ·rw [if_neg c15] at H
      have c15b0 : decide (5000 < (a2_12.size : Int)) = false := decide_eq_false c15
      have c15b1 : decide (5000 < a2_12.size) = false := decide_eq_false (by omega)
      clear c15
      have H' := Aside0.mk H
      clear H
      have hnb19 := NB354_355.out
      have hnc19 := NB355_354.out
      have hnb20 := NB354_356.out
      have hnc20 := NB356_354.out
      have hcz21_0 : w12.cell? ⟨gb354, 0, none⟩ = some (.int .i64 a2_0) := (blk_cell BK354.out 0).trans rfl
      have hcz21_1 : w12.cell? ⟨gb354, 1, none⟩ = some (.int .i64 a2_1) := (blk_cell BK354.out 1).trans rfl
      have hcz21_2 : w12.cell? ⟨gb354, 2, none⟩ = some (.int .i64 a2_2) := (blk_cell BK354.out 2).trans rfl
      have hcz21_3 : w12.cell? ⟨gb354, 3, none⟩ = some (.int .i64 a2_3) := (blk_cell BK354.out 3).trans rfl
      have hcz21_4 : w12.cell? ⟨gb354, 4, none⟩ = some (.bool a2_4) := (blk_cell BK354.out 4).trans rfl
      have hcz21_5 : w12.cell? ⟨gb354, 5, none⟩ = some (.bool a2_5) := (blk_cell BK354.out 5).trans rfl
      have hcz21_6 : w12.cell? ⟨gb354, 6, none⟩ = some (.int .i64 a2_6) := (blk_cell BK354.out 6).trans rfl
      have hcz21_7 : w12.cell? ⟨gb354, 7, none⟩ = some (.int .i64 a2_7) := (blk_cell BK354.out 7).trans rfl
      have hcz21_8 : w12.cell? ⟨gb354, 8, none⟩ = some (.int .i64 a2_8) := (blk_cell BK354.out 8).trans rfl
      have hcz21_9 : w12.cell? ⟨gb354, 9, none⟩ = some (.int .i64 a2_9) := (blk_cell BK354.out 9).trans rfl
      have hcz21_10 : w12.cell? ⟨gb354, 10, none⟩ = some (.int .i64 a2_10) := (blk_cell BK354.out 10).trans rfl
      have hcz21_11 : w12.cell? ⟨gb354, 11, none⟩ = some (.int .i64 a2_11) := (blk_cell BK354.out 11).trans rfl
      have hcz21_12 : w12.cell? ⟨gb354, 12, none⟩ = some (.string a2_12) := (blk_cell BK354.out 12).trans rfl
      have hrw1 : rowAt w12 gb354 26 13 = true := rowAt_of (BK354.out) rfl
      have hrc1 : cellsAt w12 gb354 = #[.int .i64 a2_0, .int .i64 a2_1, .int .i64 a2_2, .int .i64 a2_3, .bool a2_4, .bool a2_5, .int .i64 a2_6, .int .i64 a2_7, .int .i64 a2_8, .int .i64 a2_9, .int .i64 a2_10, .int .i64 a2_11, .string a2_12] := cellsAt_of (BK354.out)
      have hfz21_0 := blk_frozen BK354.out 0
      have hfz21_1 := blk_frozen BK354.out 1
      have hfz21_2 := blk_frozen BK354.out 2
      have hfz21_3 := blk_frozen BK354.out 3
      have hfz21_4 := blk_frozen BK354.out 4
      have hfz21_5 := blk_frozen BK354.out 5
      have hfz21_6 := blk_frozen BK354.out 6
      have hfz21_7 := blk_frozen BK354.out 7
      have hfz21_8 := blk_frozen BK354.out 8
      have hfz21_9 := blk_frozen BK354.out 9
      have hfz21_10 := blk_frozen BK354.out 10
      have hfz21_11 := blk_frozen BK354.out 11
      have hfz21_12 := blk_frozen BK354.out 12
      have hnb22 := NB356_355.out
      have hnc22 := NB355_356.out
      have hcz23_0 : w12.cell? ⟨gb356, 0, none⟩ = some (.int .i64 a4_0) := (blk_cell BK356.out 0).trans rfl
      have hcz23_1 : w12.cell? ⟨gb356, 1, none⟩ = some (.bool a4_1) := (blk_cell BK356.out 1).trans rfl
      have hcz23_2 : w12.cell? ⟨gb356, 2, none⟩ = some (.int .i64 a4_2) := (blk_cell BK356.out 2).trans rfl
      have hcz23_3 : w12.cell? ⟨gb356, 3, none⟩ = some (.int .i64 a4_3) := (blk_cell BK356.out 3).trans rfl
      have hcz23_4 : w12.cell? ⟨gb356, 4, none⟩ = some (.int .i64 a4_4) := (blk_cell BK356.out 4).trans rfl
      have hcz23_5 : w12.cell? ⟨gb356, 5, none⟩ = some (.int .i64 a4_5) := (blk_cell BK356.out 5).trans rfl
      have hcz23_6 : w12.cell? ⟨gb356, 6, none⟩ = some (.int .i64 a4_6) := (blk_cell BK356.out 6).trans rfl
      have hcz23_7 : w12.cell? ⟨gb356, 7, none⟩ = some (.int .i64 a4_7) := (blk_cell BK356.out 7).trans rfl
      have hcz23_8 : w12.cell? ⟨gb356, 8, none⟩ = some (.int .i64 a4_8) := (blk_cell BK356.out 8).trans rfl
      have hcz23_9 : w12.cell? ⟨gb356, 9, none⟩ = some (.bool a4_9) := (blk_cell BK356.out 9).trans rfl
      have hcz23_10 : w12.cell? ⟨gb356, 10, none⟩ = some (.bool a4_10) := (blk_cell BK356.out 10).trans rfl
      have hcz23_11 : w12.cell? ⟨gb356, 11, none⟩ = some (.int .i64 a4_11) := (blk_cell BK356.out 11).trans rfl
      have hcz23_12 : w12.cell? ⟨gb356, 12, none⟩ = some (.int .i64 a4_12) := (blk_cell BK356.out 12).trans rfl
      have hcz23_13 : w12.cell? ⟨gb356, 13, none⟩ = some (.int .i64 a4_13) := (blk_cell BK356.out 13).trans rfl
      have hcz23_14 : w12.cell? ⟨gb356, 14, none⟩ = some (.int .i64 a4_14) := (blk_cell BK356.out 14).trans rfl
      have hcz23_15 : w12.cell? ⟨gb356, 15, none⟩ = some (.int .i64 a4_15) := (blk_cell BK356.out 15).trans rfl
      have hcz23_16 : w12.cell? ⟨gb356, 16, none⟩ = some (.int .i64 a4_16) := (blk_cell BK356.out 16).trans rfl
      have hcz23_17 : w12.cell? ⟨gb356, 17, none⟩ = some (.slice A4_17 l4_17.length c4_17) := (blk_cell BK356.out 17).trans rfl
      have hcz23_18 : w12.cell? ⟨gb356, 18, none⟩ = some (.string a4_18) := (blk_cell BK356.out 18).trans rfl
      have hrw2 : rowAt w12 gb356 33 19 = true := rowAt_of (BK356.out) rfl
      have hrc2 : cellsAt w12 gb356 = #[.int .i64 a4_0, .bool a4_1, .int .i64 a4_2, .int .i64 a4_3, .int .i64 a4_4, .int .i64 a4_5, .int .i64 a4_6, .int .i64 a4_7, .int .i64 a4_8, .bool a4_9, .bool a4_10, .int .i64 a4_11, .int .i64 a4_12, .int .i64 a4_13, .int .i64 a4_14, .int .i64 a4_15, .int .i64 a4_16, .slice A4_17 l4_17.length c4_17, .string a4_18] := cellsAt_of (BK356.out)
      have hfz23_0 := blk_frozen BK356.out 0
      have hfz23_1 := blk_frozen BK356.out 1
      have hfz23_2 := blk_frozen BK356.out 2
      have hfz23_3 := blk_frozen BK356.out 3
      have hfz23_4 := blk_frozen BK356.out 4
      have hfz23_5 := blk_frozen BK356.out 5
      have hfz23_6 := blk_frozen BK356.out 6
      have hfz23_7 := blk_frozen BK356.out 7
      have hfz23_8 := blk_frozen BK356.out 8
      have hfz23_9 := blk_frozen BK356.out 9
      have hfz23_10 := blk_frozen BK356.out 10
      have hfz23_11 := blk_frozen BK356.out 11
      have hfz23_12 := blk_frozen BK356.out 12
      have hfz23_13 := blk_frozen BK356.out 13
      have hfz23_14 := blk_frozen BK356.out 14
      have hfz23_15 := blk_frozen BK356.out 15
      have hfz23_16 := blk_frozen BK356.out 16
      have hfz23_17 := blk_frozen BK356.out 17
      have hfz23_18 := blk_frozen BK356.out 18
      go_wp2
      go_meet
      case rel => exact ⟨_, (decide ((a4_18.size : Int) > 5000)), (by first | rfl | (simp; done) | (simp [*]; done)), H', ⟨by first | omega | exact Nat.le_refl _⟩, ⟨by (with_reducible repeat (first | refine blk_drewN ?_ _ | refine blk_drew ?_ | refine blk_alloc ?_ _)); exact BK354.out⟩, ⟨by (with_reducible repeat (first | refine blk_drewN ?_ _ | refine blk_drew ?_ | refine blk_alloc ?_ _)); exact BK355.out⟩, ⟨by (with_reducible repeat (first | refine blk_drewN ?_ _ | refine blk_drew ?_ | refine blk_alloc ?_ _)); exact BK356.out⟩, ⟨by repeat (first | (with_reducible first | exact HB.out | apply below_alloc | apply pw_below_drewN | apply below_drew1 | refine below_set ?_ GE354.out | refine below_set ?_ GE355.out | refine below_set ?_ GE356.out) | exact HB.out)⟩⟩
  case rest =>
   clear HC8
   try clear c1
   try clear c2
   try clear p2
   try clear c3
   try clear c4
   try clear c7
   try clear c8
   try clear c13
   try clear c13b0
   try clear c13b1
   try clear c14
   try clear c14b0
   try clear c14b1
   try clear c15
   try clear c15b0
   try clear c15b1
   try clear c16
   try clear c17
   try clear c19
   try clear c20
   try clear c22
   try clear hcz18_0
   try clear hcz18_1
   try clear hcz18_10
   try clear hcz18_11
   try clear hcz18_12
   try clear hcz18_2
   try clear hcz18_3
   try clear hcz18_4
   try clear hcz18_5
   try clear hcz18_6
   try clear hcz18_7
   try clear hcz18_8
   try clear hcz18_9
   try clear hcz21_0
   try clear hcz21_1
   try clear hcz21_10
   try clear hcz21_11
   try clear hcz21_12
   try clear hcz21_2
   try clear hcz21_3
   try clear hcz21_4
   try clear hcz21_5
   try clear hcz21_6
   try clear hcz21_7
   try clear hcz21_8
   try clear hcz21_9
   try clear hcz23_0
   try clear hcz23_1
   try clear hcz23_10
   try clear hcz23_11
   try clear hcz23_12
   try clear hcz23_13
   try clear hcz23_14
   try clear hcz23_15
   try clear hcz23_16
   try clear hcz23_17
   try clear hcz23_18
   try clear hcz23_2
   try clear hcz23_3
   try clear hcz23_4
   try clear hcz23_5
   try clear hcz23_6
   try clear hcz23_7
   try clear hcz23_8
   try clear hcz23_9
   try clear hfz18_0
   try clear hfz18_1
   try clear hfz18_10
   try clear hfz18_11
   try clear hfz18_12
   try clear hfz18_2
   try clear hfz18_3
   try clear hfz18_4
   try clear hfz18_5
   try clear hfz18_6
   try clear hfz18_7
   try clear hfz18_8
   try clear hfz18_9
   try clear hfz21_0
   try clear hfz21_1
   try clear hfz21_10
   try clear hfz21_11
   try clear hfz21_12
   try clear hfz21_2
   try clear hfz21_3
   try clear hfz21_4
   try clear hfz21_5
   try clear hfz21_6
   try clear hfz21_7
   try clear hfz21_8
   try clear hfz21_9
   try clear hfz23_0
   try clear hfz23_1
   try clear hfz23_10
   try clear hfz23_11
   try clear hfz23_12
   try clear hfz23_13
   try clear hfz23_14
   try clear hfz23_15
   try clear hfz23_16
   try clear hfz23_17
   try clear hfz23_18
   try clear hfz23_2
   try clear hfz23_3
   try clear hfz23_4
   try clear hfz23_5
   try clear hfz23_6
   try clear hfz23_7
   try clear hfz23_8
   try clear hfz23_9
   obtain ⟨kq, x50_7, rfl, HA, HJ7, BK354, BK355, BK356, HB⟩ := hcut
   cases kq with
   | zero => exact absurd HA.out (by simp [miradorlaw23_ServermsgWrites.j0])
   | succ kj7 =>
    have H := HA.out
    clear HA
    simp only [miradorlaw23_ServermsgWrites.j0] at H
    by_cases c24 : x50_7 = true
    ·subst c24
     have H1 : (some true) = some r := by rw [if_pos rfl] at H; exact H
     clear H
     have H := H1
     clear H1
     obtain rfl := Option.some.inj H
     go_wp2
     go_ret
     exact ⟨by first | rfl | (simp [errW_none, errW_some] <;> rfl) | (simp [*, errW_none, errW_some] <;> rfl), by repeat (first | (with_reducible first | exact HB.out | apply below_alloc | apply pw_below_drewN | apply below_drew1 | refine below_set ?_ GE354.out | refine below_set ?_ GE355.out | refine below_set ?_ GE356.out) | exact HB.out)⟩
    ·replace c24 := Bool.eq_false_iff.mpr c24
     subst c24
     have H1 : ((servermsg_Kinds.f l0).bind fun bt358 => ((miradorref23_Kinds.f kj7 l0).bind fun bt360 => ((servermsg_Bytes.f a2_0 a2_1 a2_2 a2_3 a2_4 a2_5 a2_6 a2_7 a2_8 a2_9 a2_10 a2_11 a2_12).bind fun bt362 => ((miradorref23_Bytes.f kj7 a2_0 a2_1 a2_2 a2_3 a2_4 a2_5 a2_6 a2_7 a2_8 a2_9 a2_10 a2_11 a2_12).bind fun bt364 => ((servermsg_Put.f a3_0 a3_1 a3_2 a3_3 a3_4).bind fun bt366 => ((miradorref23_Put.f kj7 a3_0 a3_1 a3_2 a3_3 a3_4).bind fun bt368 => ((servermsg_Say.f a4_0 a4_1 a4_2 a4_3 a4_4 a4_5 a4_6 a4_7 a4_8 a4_9 a4_10 a4_11 a4_12 a4_13 a4_14 a4_15 a4_16 l4_17 a4_18).bind fun bt370 => ((miradorref23_Say.f kj7 a4_0 a4_1 a4_2 a4_3 a4_4 a4_5 a4_6 a4_7 a4_8 a4_9 a4_10 a4_11 a4_12 a4_13 a4_14 a4_15 a4_16 l4_17 a4_18).bind fun bt372 => (if true = true then (if bt358.1.toList = bt360.1.toList then (if bt358.2 = bt360.2 then (if bt362.1.toList = bt364.1.toList then (if bt362.2 = bt364.2 then (if bt366.1.toList = bt368.1.toList then (if bt366.2 = bt368.2 then (if bt370.1.toList = bt372.1.toList then (if bt370.2 = bt372.2 then ((servermsg_Result.f a1).bind fun t374 => ((miradorref23_Result.f kj7 a1).bind fun t375 => (some (t374.toList == t375.toList)))) else (some false)) else (some false)) else (some false)) else (some false)) else (some false)) else (some false)) else (some false)) else (some false)) else (some false)))))))))) = some r := by rw [if_neg (show ¬ (false = true) by decide)] at H; exact H
     clear H
     have H := H1
     clear H1
     replace H := Option.bind_eq_some_iff.mp H
     obtain ⟨⟨t358, t359⟩, A250, H⟩ := H
     replace H : ((miradorref23_Kinds.f kj7 l0).bind fun bt360 => ((servermsg_Bytes.f a2_0 a2_1 a2_2 a2_3 a2_4 a2_5 a2_6 a2_7 a2_8 a2_9 a2_10 a2_11 a2_12).bind fun bt362 => ((miradorref23_Bytes.f kj7 a2_0 a2_1 a2_2 a2_3 a2_4 a2_5 a2_6 a2_7 a2_8 a2_9 a2_10 a2_11 a2_12).bind fun bt364 => ((servermsg_Put.f a3_0 a3_1 a3_2 a3_3 a3_4).bind fun bt366 => ((miradorref23_Put.f kj7 a3_0 a3_1 a3_2 a3_3 a3_4).bind fun bt368 => ((servermsg_Say.f a4_0 a4_1 a4_2 a4_3 a4_4 a4_5 a4_6 a4_7 a4_8 a4_9 a4_10 a4_11 a4_12 a4_13 a4_14 a4_15 a4_16 l4_17 a4_18).bind fun bt370 => ((miradorref23_Say.f kj7 a4_0 a4_1 a4_2 a4_3 a4_4 a4_5 a4_6 a4_7 a4_8 a4_9 a4_10 a4_11 a4_12 a4_13 a4_14 a4_15 a4_16 l4_17 a4_18).bind fun bt372 => (if true = true then (if t358.toList = bt360.1.toList then (if t359 = bt360.2 then (if bt362.1.toList = bt364.1.toList then (if bt362.2 = bt364.2 then (if bt366.1.toList = bt368.1.toList then (if bt366.2 = bt368.2 then (if bt370.1.toList = bt372.1.toList then (if bt370.2 = bt372.2 then ((servermsg_Result.f a1).bind fun t374 => ((miradorref23_Result.f kj7 a1).bind fun t375 => (some (t374.toList == t375.toList)))) else (some false)) else (some false)) else (some false)) else (some false)) else (some false)) else (some false)) else (some false)) else (some false)) else (some false))))))))) = some r := H
     have A25 := Aside0.mk A250
     clear A250
     replace H := Option.bind_eq_some_iff.mp H
     obtain ⟨⟨t360, t361⟩, A260, H⟩ := H
     replace H : ((servermsg_Bytes.f a2_0 a2_1 a2_2 a2_3 a2_4 a2_5 a2_6 a2_7 a2_8 a2_9 a2_10 a2_11 a2_12).bind fun bt362 => ((miradorref23_Bytes.f kj7 a2_0 a2_1 a2_2 a2_3 a2_4 a2_5 a2_6 a2_7 a2_8 a2_9 a2_10 a2_11 a2_12).bind fun bt364 => ((servermsg_Put.f a3_0 a3_1 a3_2 a3_3 a3_4).bind fun bt366 => ((miradorref23_Put.f kj7 a3_0 a3_1 a3_2 a3_3 a3_4).bind fun bt368 => ((servermsg_Say.f a4_0 a4_1 a4_2 a4_3 a4_4 a4_5 a4_6 a4_7 a4_8 a4_9 a4_10 a4_11 a4_12 a4_13 a4_14 a4_15 a4_16 l4_17 a4_18).bind fun bt370 => ((miradorref23_Say.f kj7 a4_0 a4_1 a4_2 a4_3 a4_4 a4_5 a4_6 a4_7 a4_8 a4_9 a4_10 a4_11 a4_12 a4_13 a4_14 a4_15 a4_16 l4_17 a4_18).bind fun bt372 => (if true = true then (if t358.toList = t360.toList then (if t359 = t361 then (if bt362.1.toList = bt364.1.toList then (if bt362.2 = bt364.2 then (if bt366.1.toList = bt368.1.toList then (if bt366.2 = bt368.2 then (if bt370.1.toList = bt372.1.toList then (if bt370.2 = bt372.2 then ((servermsg_Result.f a1).bind fun t374 => ((miradorref23_Result.f kj7 a1).bind fun t375 => (some (t374.toList == t375.toList)))) else (some false)) else (some false)) else (some false)) else (some false)) else (some false)) else (some false)) else (some false)) else (some false)) else (some false)))))))) = some r := H
     have A26 := Aside0.mk A260
     clear A260
     replace H := Option.bind_eq_some_iff.mp H
     obtain ⟨⟨t362, t363⟩, A270, H⟩ := H
     replace H : ((miradorref23_Bytes.f kj7 a2_0 a2_1 a2_2 a2_3 a2_4 a2_5 a2_6 a2_7 a2_8 a2_9 a2_10 a2_11 a2_12).bind fun bt364 => ((servermsg_Put.f a3_0 a3_1 a3_2 a3_3 a3_4).bind fun bt366 => ((miradorref23_Put.f kj7 a3_0 a3_1 a3_2 a3_3 a3_4).bind fun bt368 => ((servermsg_Say.f a4_0 a4_1 a4_2 a4_3 a4_4 a4_5 a4_6 a4_7 a4_8 a4_9 a4_10 a4_11 a4_12 a4_13 a4_14 a4_15 a4_16 l4_17 a4_18).bind fun bt370 => ((miradorref23_Say.f kj7 a4_0 a4_1 a4_2 a4_3 a4_4 a4_5 a4_6 a4_7 a4_8 a4_9 a4_10 a4_11 a4_12 a4_13 a4_14 a4_15 a4_16 l4_17 a4_18).bind fun bt372 => (if true = true then (if t358.toList = t360.toList then (if t359 = t361 then (if t362.toList = bt364.1.toList then (if t363 = bt364.2 then (if bt366.1.toList = bt368.1.toList then (if bt366.2 = bt368.2 then (if bt370.1.toList = bt372.1.toList then (if bt370.2 = bt372.2 then ((servermsg_Result.f a1).bind fun t374 => ((miradorref23_Result.f kj7 a1).bind fun t375 => (some (t374.toList == t375.toList)))) else (some false)) else (some false)) else (some false)) else (some false)) else (some false)) else (some false)) else (some false)) else (some false)) else (some false))))))) = some r := H
     have A27 := Aside0.mk A270
     clear A270
     replace H := Option.bind_eq_some_iff.mp H
     obtain ⟨⟨t364, t365⟩, A280, H⟩ := H
     replace H : ((servermsg_Put.f a3_0 a3_1 a3_2 a3_3 a3_4).bind fun bt366 => ((miradorref23_Put.f kj7 a3_0 a3_1 a3_2 a3_3 a3_4).bind fun bt368 => ((servermsg_Say.f a4_0 a4_1 a4_2 a4_3 a4_4 a4_5 a4_6 a4_7 a4_8 a4_9 a4_10 a4_11 a4_12 a4_13 a4_14 a4_15 a4_16 l4_17 a4_18).bind fun bt370 => ((miradorref23_Say.f kj7 a4_0 a4_1 a4_2 a4_3 a4_4 a4_5 a4_6 a4_7 a4_8 a4_9 a4_10 a4_11 a4_12 a4_13 a4_14 a4_15 a4_16 l4_17 a4_18).bind fun bt372 => (if true = true then (if t358.toList = t360.toList then (if t359 = t361 then (if t362.toList = t364.toList then (if t363 = t365 then (if bt366.1.toList = bt368.1.toList then (if bt366.2 = bt368.2 then (if bt370.1.toList = bt372.1.toList then (if bt370.2 = bt372.2 then ((servermsg_Result.f a1).bind fun t374 => ((miradorref23_Result.f kj7 a1).bind fun t375 => (some (t374.toList == t375.toList)))) else (some false)) else (some false)) else (some false)) else (some false)) else (some false)) else (some false)) else (some false)) else (some false)) else (some false)))))) = some r := H
     have A28 := Aside0.mk A280
     clear A280
     replace H := Option.bind_eq_some_iff.mp H
     obtain ⟨⟨t366, t367⟩, A290, H⟩ := H
     replace H : ((miradorref23_Put.f kj7 a3_0 a3_1 a3_2 a3_3 a3_4).bind fun bt368 => ((servermsg_Say.f a4_0 a4_1 a4_2 a4_3 a4_4 a4_5 a4_6 a4_7 a4_8 a4_9 a4_10 a4_11 a4_12 a4_13 a4_14 a4_15 a4_16 l4_17 a4_18).bind fun bt370 => ((miradorref23_Say.f kj7 a4_0 a4_1 a4_2 a4_3 a4_4 a4_5 a4_6 a4_7 a4_8 a4_9 a4_10 a4_11 a4_12 a4_13 a4_14 a4_15 a4_16 l4_17 a4_18).bind fun bt372 => (if true = true then (if t358.toList = t360.toList then (if t359 = t361 then (if t362.toList = t364.toList then (if t363 = t365 then (if t366.toList = bt368.1.toList then (if t367 = bt368.2 then (if bt370.1.toList = bt372.1.toList then (if bt370.2 = bt372.2 then ((servermsg_Result.f a1).bind fun t374 => ((miradorref23_Result.f kj7 a1).bind fun t375 => (some (t374.toList == t375.toList)))) else (some false)) else (some false)) else (some false)) else (some false)) else (some false)) else (some false)) else (some false)) else (some false)) else (some false))))) = some r := H
     have A29 := Aside0.mk A290
     clear A290
     replace H := Option.bind_eq_some_iff.mp H
     obtain ⟨⟨t368, t369⟩, A300, H⟩ := H
     replace H : ((servermsg_Say.f a4_0 a4_1 a4_2 a4_3 a4_4 a4_5 a4_6 a4_7 a4_8 a4_9 a4_10 a4_11 a4_12 a4_13 a4_14 a4_15 a4_16 l4_17 a4_18).bind fun bt370 => ((miradorref23_Say.f kj7 a4_0 a4_1 a4_2 a4_3 a4_4 a4_5 a4_6 a4_7 a4_8 a4_9 a4_10 a4_11 a4_12 a4_13 a4_14 a4_15 a4_16 l4_17 a4_18).bind fun bt372 => (if true = true then (if t358.toList = t360.toList then (if t359 = t361 then (if t362.toList = t364.toList then (if t363 = t365 then (if t366.toList = t368.toList then (if t367 = t369 then (if bt370.1.toList = bt372.1.toList then (if bt370.2 = bt372.2 then ((servermsg_Result.f a1).bind fun t374 => ((miradorref23_Result.f kj7 a1).bind fun t375 => (some (t374.toList == t375.toList)))) else (some false)) else (some false)) else (some false)) else (some false)) else (some false)) else (some false)) else (some false)) else (some false)) else (some false)))) = some r := H
     have A30 := Aside0.mk A300
     clear A300
     replace H := Option.bind_eq_some_iff.mp H
     obtain ⟨⟨t370, t371⟩, A310, H⟩ := H
     replace H : ((miradorref23_Say.f kj7 a4_0 a4_1 a4_2 a4_3 a4_4 a4_5 a4_6 a4_7 a4_8 a4_9 a4_10 a4_11 a4_12 a4_13 a4_14 a4_15 a4_16 l4_17 a4_18).bind fun bt372 => (if true = true then (if t358.toList = t360.toList then (if t359 = t361 then (if t362.toList = t364.toList then (if t363 = t365 then (if t366.toList = t368.toList then (if t367 = t369 then (if t370.toList = bt372.1.toList then (if t371 = bt372.2 then ((servermsg_Result.f a1).bind fun t374 => ((miradorref23_Result.f kj7 a1).bind fun t375 => (some (t374.toList == t375.toList)))) else (some false)) else (some false)) else (some false)) else (some false)) else (some false)) else (some false)) else (some false)) else (some false)) else (some false))) = some r := H
     have A31 := Aside0.mk A310
     clear A310
     replace H := Option.bind_eq_some_iff.mp H
     obtain ⟨⟨t372, t373⟩, A320, H⟩ := H
     replace H : (if true = true then (if t358.toList = t360.toList then (if t359 = t361 then (if t362.toList = t364.toList then (if t363 = t365 then (if t366.toList = t368.toList then (if t367 = t369 then (if t370.toList = t372.toList then (if t371 = t373 then ((servermsg_Result.f a1).bind fun t374 => ((miradorref23_Result.f kj7 a1).bind fun t375 => (some (t374.toList == t375.toList)))) else (some false)) else (some false)) else (some false)) else (some false)) else (some false)) else (some false)) else (some false)) else (some false)) else (some false)) = some r := H
     have A32 := Aside0.mk A320
     clear A320
     have H1 : (if t358.toList = t360.toList then (if t359 = t361 then (if t362.toList = t364.toList then (if t363 = t365 then (if t366.toList = t368.toList then (if t367 = t369 then (if t370.toList = t372.toList then (if t371 = t373 then ((servermsg_Result.f a1).bind fun t374 => ((miradorref23_Result.f kj7 a1).bind fun t375 => (some (t374.toList == t375.toList)))) else (some false)) else (some false)) else (some false)) else (some false)) else (some false)) else (some false)) else (some false)) else (some false)) = some r := by (first | rw [if_pos rfl] at H | rw [if_pos trivial] at H); exact H
     clear H
     have H := H1
     clear H1
     by_cases c33 : t358.toList = t360.toList
     ·rw [if_pos c33] at H
      have c33b0 : (t358.toList == t360.toList) = true := beq_iff_eq.mpr c33
      have c33b1 : (t358.toList != t360.toList) = false := bne_eq_false_iff_eq.mpr c33
      clear c33
      by_cases c34 : t359 = t361
      ·rw [if_pos c34] at H
       have c34b0 : (t359 == t361) = true := beq_iff_eq.mpr c34
       have c34b1 : (t359 != t361) = false := bne_eq_false_iff_eq.mpr c34
       clear c34
       by_cases c35 : t362.toList = t364.toList
       ·rw [if_pos c35] at H
        have c35b0 : (t362.toList == t364.toList) = true := beq_iff_eq.mpr c35
        have c35b1 : (t362.toList != t364.toList) = false := bne_eq_false_iff_eq.mpr c35
        clear c35
        by_cases c36 : t363 = t365
        ·rw [if_pos c36] at H
         have c36b0 : (t363 == t365) = true := beq_iff_eq.mpr c36
         have c36b1 : (t363 != t365) = false := bne_eq_false_iff_eq.mpr c36
         clear c36
         by_cases c37 : t366.toList = t368.toList
         ·rw [if_pos c37] at H
          have c37b0 : (t366.toList == t368.toList) = true := beq_iff_eq.mpr c37
          have c37b1 : (t366.toList != t368.toList) = false := bne_eq_false_iff_eq.mpr c37
          clear c37
          by_cases c38 : t367 = t369
          ·rw [if_pos c38] at H
           have c38b0 : (t367 == t369) = true := beq_iff_eq.mpr c38
           have c38b1 : (t367 != t369) = false := bne_eq_false_iff_eq.mpr c38
           clear c38
           by_cases c39 : t370.toList = t372.toList
           ·rw [if_pos c39] at H
            have c39b0 : (t370.toList == t372.toList) = true := beq_iff_eq.mpr c39
            have c39b1 : (t370.toList != t372.toList) = false := bne_eq_false_iff_eq.mpr c39
            clear c39
            by_cases c40 : t371 = t373
            ·rw [if_pos c40] at H
             have c40b0 : (t371 == t373) = true := beq_iff_eq.mpr c40
             have c40b1 : (t371 != t373) = false := bne_eq_false_iff_eq.mpr c40
             clear c40
             replace H := Option.bind_eq_some_iff.mp H
             obtain ⟨t374, A410, H⟩ := H
             replace H : ((miradorref23_Result.f kj7 a1).bind fun t375 => (some (t374.toList == t375.toList))) = some r := H
             have A41 := Aside0.mk A410
             clear A410
             replace H := Option.bind_eq_some_iff.mp H
             obtain ⟨t375, A420, H⟩ := H
             replace H : (some (t374.toList == t375.toList)) = some r := H
             have A42 := Aside0.mk A420
             clear A420
             obtain rfl := Option.some.inj H
             go_wp2_with (first | ((with_reducible refine gate_callee (f := 9) rfl ?_); refine goesL_ (some 54) rfl rfl Try.func9 (by kernel_rfl) rfl #[.slice A0 l0.length c0] rfl (by (try simp only [List.map_toArray, List.map_cons, List.map_nil]); first | done | rfl | (simp only [List.length_drop, List.length_take]; rfl)) ?_; (with_reducible refine (servermsg_Kinds.calls _ _ l0 t358 t359 _ ?side1 ?side2 A25.out).mono ?_); (case side1 => repeat (first | exact (Kd.C_below HR0.out HB.out) | (with_reducible refine Kd.C_alloc ?_ _) | (with_reducible refine Kd.C_drewN ?_ _) | (with_reducible refine Kd.C_drew ?_))); (case side2 => exact HC0.out); rintro e w43 ⟨rfl, hb⟩; refine ⟨_, rfl, ?_⟩; have n0_ := Aside0.mk (blk_below (g := gb354) (o := .cells #[.int .i64 a2_0, .int .i64 a2_1, .int .i64 a2_2, .int .i64 a2_3, .bool a2_4, .bool a2_5, .int .i64 a2_6, .int .i64 a2_7, .int .i64 a2_8, .int .i64 a2_9, .int .i64 a2_10, .int .i64 a2_11, .string a2_12] 26 (0, 0)) (by (with_reducible repeat (first | refine blk_drewN ?_ _ | refine blk_drew ?_ | refine blk_alloc ?_ _)); exact BK354.out) hb); have n1_ := Aside0.mk (blk_below (g := gb355) (o := .cells #[.int .i64 a3_0, .int .i64 a3_1, .int .i64 a3_2, .int .i64 a3_3, .int .i64 a3_4] 30 (0, 0)) (by (with_reducible repeat (first | refine blk_drewN ?_ _ | refine blk_drew ?_ | refine blk_alloc ?_ _)); exact BK355.out) hb); have n2_ := Aside0.mk (blk_below (g := gb356) (o := .cells #[.int .i64 a4_0, .bool a4_1, .int .i64 a4_2, .int .i64 a4_3, .int .i64 a4_4, .int .i64 a4_5, .int .i64 a4_6, .int .i64 a4_7, .int .i64 a4_8, .bool a4_9, .bool a4_10, .int .i64 a4_11, .int .i64 a4_12, .int .i64 a4_13, .int .i64 a4_14, .int .i64 a4_15, .int .i64 a4_16, .slice A4_17 l4_17.length c4_17, .string a4_18] 33 (0, 0)) (by (with_reducible repeat (first | refine blk_drewN ?_ _ | refine blk_drew ?_ | refine blk_alloc ?_ _)); exact BK356.out) hb); have n3_ := Aside0.mk (below_step (by repeat (first | (with_reducible first | exact HB.out | apply below_alloc | apply pw_below_drewN | apply below_drew1 | refine below_set ?_ GE354.out | refine below_set ?_ GE355.out | refine below_set ?_ GE356.out) | exact HB.out)) hb); clear BK354; clear BK355; clear BK356; clear HB; have BK354 := n0_; have BK355 := n1_; have BK356 := n2_; have HB := n3_; clear n0_ n1_ n2_ n3_; (try clear hb); (try clear hb2); (try clear hk); (try clear hi)) | ((with_reducible refine gate_callee (f := 10) rfl ?_); refine goesL_ (some 59) rfl rfl Try.func10 (by kernel_rfl) rfl #[.slice A0 l0.length c0] rfl (by (try simp only [List.map_toArray, List.map_cons, List.map_nil]); first | done | rfl | (simp only [List.length_drop, List.length_take]; rfl)) ?_; (with_reducible refine (miradorref23_Kinds.calls kj7 _ _ l0 t360 t361 _ ?side1 ?side2 A26.out).mono ?_); (case side1 => repeat (first | exact (Kd.C_below HR0.out HB.out) | (with_reducible refine Kd.C_alloc ?_ _) | (with_reducible refine Kd.C_drewN ?_ _) | (with_reducible refine Kd.C_drew ?_))); (case side2 => exact HC0.out); rintro e w44 ⟨rfl, hb⟩; refine ⟨_, rfl, ?_⟩; have n0_ := Aside0.mk (blk_below (g := gb354) (o := .cells #[.int .i64 a2_0, .int .i64 a2_1, .int .i64 a2_2, .int .i64 a2_3, .bool a2_4, .bool a2_5, .int .i64 a2_6, .int .i64 a2_7, .int .i64 a2_8, .int .i64 a2_9, .int .i64 a2_10, .int .i64 a2_11, .string a2_12] 26 (0, 0)) (by (with_reducible repeat (first | refine blk_drewN ?_ _ | refine blk_drew ?_ | refine blk_alloc ?_ _)); exact BK354.out) hb); have n1_ := Aside0.mk (blk_below (g := gb355) (o := .cells #[.int .i64 a3_0, .int .i64 a3_1, .int .i64 a3_2, .int .i64 a3_3, .int .i64 a3_4] 30 (0, 0)) (by (with_reducible repeat (first | refine blk_drewN ?_ _ | refine blk_drew ?_ | refine blk_alloc ?_ _)); exact BK355.out) hb); have n2_ := Aside0.mk (blk_below (g := gb356) (o := .cells #[.int .i64 a4_0, .bool a4_1, .int .i64 a4_2, .int .i64 a4_3, .int .i64 a4_4, .int .i64 a4_5, .int .i64 a4_6, .int .i64 a4_7, .int .i64 a4_8, .bool a4_9, .bool a4_10, .int .i64 a4_11, .int .i64 a4_12, .int .i64 a4_13, .int .i64 a4_14, .int .i64 a4_15, .int .i64 a4_16, .slice A4_17 l4_17.length c4_17, .string a4_18] 33 (0, 0)) (by (with_reducible repeat (first | refine blk_drewN ?_ _ | refine blk_drew ?_ | refine blk_alloc ?_ _)); exact BK356.out) hb); have n3_ := Aside0.mk (below_step (by repeat (first | (with_reducible first | exact HB.out | apply below_alloc | apply pw_below_drewN | apply below_drew1 | refine below_set ?_ GE354.out | refine below_set ?_ GE355.out | refine below_set ?_ GE356.out) | exact HB.out)) hb); clear BK354; clear BK355; clear BK356; clear HB; have BK354 := n0_; have BK355 := n1_; have BK356 := n2_; have HB := n3_; clear n0_ n1_ n2_ n3_; (try clear hb); (try clear hb2); (try clear hk); (try clear hi); have hnb45 := NB354_355.out; have hnc45 := NB355_354.out; have hnb46 := NB354_356.out; have hnc46 := NB356_354.out; have hcz47_0 : w44.cell? ⟨gb354, 0, none⟩ = some (.int .i64 a2_0) := (blk_cell BK354.out 0).trans rfl; have hcz47_1 : w44.cell? ⟨gb354, 1, none⟩ = some (.int .i64 a2_1) := (blk_cell BK354.out 1).trans rfl; have hcz47_2 : w44.cell? ⟨gb354, 2, none⟩ = some (.int .i64 a2_2) := (blk_cell BK354.out 2).trans rfl; have hcz47_3 : w44.cell? ⟨gb354, 3, none⟩ = some (.int .i64 a2_3) := (blk_cell BK354.out 3).trans rfl; have hcz47_4 : w44.cell? ⟨gb354, 4, none⟩ = some (.bool a2_4) := (blk_cell BK354.out 4).trans rfl; have hcz47_5 : w44.cell? ⟨gb354, 5, none⟩ = some (.bool a2_5) := (blk_cell BK354.out 5).trans rfl; have hcz47_6 : w44.cell? ⟨gb354, 6, none⟩ = some (.int .i64 a2_6) := (blk_cell BK354.out 6).trans rfl; have hcz47_7 : w44.cell? ⟨gb354, 7, none⟩ = some (.int .i64 a2_7) := (blk_cell BK354.out 7).trans rfl; have hcz47_8 : w44.cell? ⟨gb354, 8, none⟩ = some (.int .i64 a2_8) := (blk_cell BK354.out 8).trans rfl; have hcz47_9 : w44.cell? ⟨gb354, 9, none⟩ = some (.int .i64 a2_9) := (blk_cell BK354.out 9).trans rfl; have hcz47_10 : w44.cell? ⟨gb354, 10, none⟩ = some (.int .i64 a2_10) := (blk_cell BK354.out 10).trans rfl; have hcz47_11 : w44.cell? ⟨gb354, 11, none⟩ = some (.int .i64 a2_11) := (blk_cell BK354.out 11).trans rfl; have hcz47_12 : w44.cell? ⟨gb354, 12, none⟩ = some (.string a2_12) := (blk_cell BK354.out 12).trans rfl; have hrw3 : rowAt w44 gb354 26 13 = true := rowAt_of (BK354.out) rfl; have hrc3 : cellsAt w44 gb354 = #[.int .i64 a2_0, .int .i64 a2_1, .int .i64 a2_2, .int .i64 a2_3, .bool a2_4, .bool a2_5, .int .i64 a2_6, .int .i64 a2_7, .int .i64 a2_8, .int .i64 a2_9, .int .i64 a2_10, .int .i64 a2_11, .string a2_12] := cellsAt_of (BK354.out); have hfz47_0 := blk_frozen BK354.out 0; have hfz47_1 := blk_frozen BK354.out 1; have hfz47_2 := blk_frozen BK354.out 2; have hfz47_3 := blk_frozen BK354.out 3; have hfz47_4 := blk_frozen BK354.out 4; have hfz47_5 := blk_frozen BK354.out 5; have hfz47_6 := blk_frozen BK354.out 6; have hfz47_7 := blk_frozen BK354.out 7; have hfz47_8 := blk_frozen BK354.out 8; have hfz47_9 := blk_frozen BK354.out 9; have hfz47_10 := blk_frozen BK354.out 10; have hfz47_11 := blk_frozen BK354.out 11; have hfz47_12 := blk_frozen BK354.out 12) | ((with_reducible refine gate_callee (f := 11) rfl ?_); refine goesL_ (some 64) rfl rfl Try.func11 (by kernel_rfl) rfl #[.agg #[.int .i64 a2_0, .int .i64 a2_1, .int .i64 a2_2, .int .i64 a2_3, .bool a2_4, .bool a2_5, .int .i64 a2_6, .int .i64 a2_7, .int .i64 a2_8, .int .i64 a2_9, .int .i64 a2_10, .int .i64 a2_11, .string a2_12]] rfl (by (try simp only [List.map_toArray, List.map_cons, List.map_nil]); first | done | rfl | (simp only [List.length_drop, List.length_take]; rfl)) ?_; (with_reducible refine (servermsg_Bytes.calls a2_0 a2_1 a2_2 a2_3 a2_4 a2_5 a2_6 a2_7 a2_8 a2_9 a2_10 a2_11 a2_12 t362 t363 _ A27.out).mono ?_); rintro e w48 ⟨rfl, hb⟩; refine ⟨_, rfl, ?_⟩; have n0_ := Aside0.mk (blk_below (g := gb354) (o := .cells #[.int .i64 a2_0, .int .i64 a2_1, .int .i64 a2_2, .int .i64 a2_3, .bool a2_4, .bool a2_5, .int .i64 a2_6, .int .i64 a2_7, .int .i64 a2_8, .int .i64 a2_9, .int .i64 a2_10, .int .i64 a2_11, .string a2_12] 26 (0, 0)) (by (with_reducible repeat (first | refine blk_drewN ?_ _ | refine blk_drew ?_ | refine blk_alloc ?_ _)); exact BK354.out) hb); have n1_ := Aside0.mk (blk_below (g := gb355) (o := .cells #[.int .i64 a3_0, .int .i64 a3_1, .int .i64 a3_2, .int .i64 a3_3, .int .i64 a3_4] 30 (0, 0)) (by (with_reducible repeat (first | refine blk_drewN ?_ _ | refine blk_drew ?_ | refine blk_alloc ?_ _)); exact BK355.out) hb); have n2_ := Aside0.mk (blk_below (g := gb356) (o := .cells #[.int .i64 a4_0, .bool a4_1, .int .i64 a4_2, .int .i64 a4_3, .int .i64 a4_4, .int .i64 a4_5, .int .i64 a4_6, .int .i64 a4_7, .int .i64 a4_8, .bool a4_9, .bool a4_10, .int .i64 a4_11, .int .i64 a4_12, .int .i64 a4_13, .int .i64 a4_14, .int .i64 a4_15, .int .i64 a4_16, .slice A4_17 l4_17.length c4_17, .string a4_18] 33 (0, 0)) (by (with_reducible repeat (first | refine blk_drewN ?_ _ | refine blk_drew ?_ | refine blk_alloc ?_ _)); exact BK356.out) hb); have n3_ := Aside0.mk (below_step (by repeat (first | (with_reducible first | exact HB.out | apply below_alloc | apply pw_below_drewN | apply below_drew1 | refine below_set ?_ GE354.out | refine below_set ?_ GE355.out | refine below_set ?_ GE356.out) | exact HB.out)) hb); clear BK354; clear BK355; clear BK356; clear HB; have BK354 := n0_; have BK355 := n1_; have BK356 := n2_; have HB := n3_; clear n0_ n1_ n2_ n3_; (try clear hb); (try clear hb2); (try clear hk); (try clear hi); have hcz49_0 : w48.cell? ⟨gb354, 0, none⟩ = some (.int .i64 a2_0) := (blk_cell BK354.out 0).trans rfl; have hcz49_1 : w48.cell? ⟨gb354, 1, none⟩ = some (.int .i64 a2_1) := (blk_cell BK354.out 1).trans rfl; have hcz49_2 : w48.cell? ⟨gb354, 2, none⟩ = some (.int .i64 a2_2) := (blk_cell BK354.out 2).trans rfl; have hcz49_3 : w48.cell? ⟨gb354, 3, none⟩ = some (.int .i64 a2_3) := (blk_cell BK354.out 3).trans rfl; have hcz49_4 : w48.cell? ⟨gb354, 4, none⟩ = some (.bool a2_4) := (blk_cell BK354.out 4).trans rfl; have hcz49_5 : w48.cell? ⟨gb354, 5, none⟩ = some (.bool a2_5) := (blk_cell BK354.out 5).trans rfl; have hcz49_6 : w48.cell? ⟨gb354, 6, none⟩ = some (.int .i64 a2_6) := (blk_cell BK354.out 6).trans rfl; have hcz49_7 : w48.cell? ⟨gb354, 7, none⟩ = some (.int .i64 a2_7) := (blk_cell BK354.out 7).trans rfl; have hcz49_8 : w48.cell? ⟨gb354, 8, none⟩ = some (.int .i64 a2_8) := (blk_cell BK354.out 8).trans rfl; have hcz49_9 : w48.cell? ⟨gb354, 9, none⟩ = some (.int .i64 a2_9) := (blk_cell BK354.out 9).trans rfl; have hcz49_10 : w48.cell? ⟨gb354, 10, none⟩ = some (.int .i64 a2_10) := (blk_cell BK354.out 10).trans rfl; have hcz49_11 : w48.cell? ⟨gb354, 11, none⟩ = some (.int .i64 a2_11) := (blk_cell BK354.out 11).trans rfl; have hcz49_12 : w48.cell? ⟨gb354, 12, none⟩ = some (.string a2_12) := (blk_cell BK354.out 12).trans rfl; have hrw4 : rowAt w48 gb354 26 13 = true := rowAt_of (BK354.out) rfl; have hrc4 : cellsAt w48 gb354 = #[.int .i64 a2_0, .int .i64 a2_1, .int .i64 a2_2, .int .i64 a2_3, .bool a2_4, .bool a2_5, .int .i64 a2_6, .int .i64 a2_7, .int .i64 a2_8, .int .i64 a2_9, .int .i64 a2_10, .int .i64 a2_11, .string a2_12] := cellsAt_of (BK354.out); have hfz49_0 := blk_frozen BK354.out 0; have hfz49_1 := blk_frozen BK354.out 1; have hfz49_2 := blk_frozen BK354.out 2; have hfz49_3 := blk_frozen BK354.out 3; have hfz49_4 := blk_frozen BK354.out 4; have hfz49_5 := blk_frozen BK354.out 5; have hfz49_6 := blk_frozen BK354.out 6; have hfz49_7 := blk_frozen BK354.out 7; have hfz49_8 := blk_frozen BK354.out 8; have hfz49_9 := blk_frozen BK354.out 9; have hfz49_10 := blk_frozen BK354.out 10; have hfz49_11 := blk_frozen BK354.out 11; have hfz49_12 := blk_frozen BK354.out 12) | ((with_reducible refine gate_callee (f := 12) rfl ?_); refine goesL_ (some 77) rfl rfl Try.func12 (by kernel_rfl) rfl #[.agg #[.int .i64 a2_0, .int .i64 a2_1, .int .i64 a2_2, .int .i64 a2_3, .bool a2_4, .bool a2_5, .int .i64 a2_6, .int .i64 a2_7, .int .i64 a2_8, .int .i64 a2_9, .int .i64 a2_10, .int .i64 a2_11, .string a2_12]] rfl (by (try simp only [List.map_toArray, List.map_cons, List.map_nil]); first | done | rfl | (simp only [List.length_drop, List.length_take]; rfl)) ?_; (with_reducible refine (miradorref23_Bytes.calls kj7 a2_0 a2_1 a2_2 a2_3 a2_4 a2_5 a2_6 a2_7 a2_8 a2_9 a2_10 a2_11 a2_12 t364 t365 _ A28.out).mono ?_); rintro e w50 ⟨rfl, hb⟩; refine ⟨_, rfl, ?_⟩; have n0_ := Aside0.mk (blk_below (g := gb354) (o := .cells #[.int .i64 a2_0, .int .i64 a2_1, .int .i64 a2_2, .int .i64 a2_3, .bool a2_4, .bool a2_5, .int .i64 a2_6, .int .i64 a2_7, .int .i64 a2_8, .int .i64 a2_9, .int .i64 a2_10, .int .i64 a2_11, .string a2_12] 26 (0, 0)) (by (with_reducible repeat (first | refine blk_drewN ?_ _ | refine blk_drew ?_ | refine blk_alloc ?_ _)); exact BK354.out) hb); have n1_ := Aside0.mk (blk_below (g := gb355) (o := .cells #[.int .i64 a3_0, .int .i64 a3_1, .int .i64 a3_2, .int .i64 a3_3, .int .i64 a3_4] 30 (0, 0)) (by (with_reducible repeat (first | refine blk_drewN ?_ _ | refine blk_drew ?_ | refine blk_alloc ?_ _)); exact BK355.out) hb); have n2_ := Aside0.mk (blk_below (g := gb356) (o := .cells #[.int .i64 a4_0, .bool a4_1, .int .i64 a4_2, .int .i64 a4_3, .int .i64 a4_4, .int .i64 a4_5, .int .i64 a4_6, .int .i64 a4_7, .int .i64 a4_8, .bool a4_9, .bool a4_10, .int .i64 a4_11, .int .i64 a4_12, .int .i64 a4_13, .int .i64 a4_14, .int .i64 a4_15, .int .i64 a4_16, .slice A4_17 l4_17.length c4_17, .string a4_18] 33 (0, 0)) (by (with_reducible repeat (first | refine blk_drewN ?_ _ | refine blk_drew ?_ | refine blk_alloc ?_ _)); exact BK356.out) hb); have n3_ := Aside0.mk (below_step (by repeat (first | (with_reducible first | exact HB.out | apply below_alloc | apply pw_below_drewN | apply below_drew1 | refine below_set ?_ GE354.out | refine below_set ?_ GE355.out | refine below_set ?_ GE356.out) | exact HB.out)) hb); clear BK354; clear BK355; clear BK356; clear HB; have BK354 := n0_; have BK355 := n1_; have BK356 := n2_; have HB := n3_; clear n0_ n1_ n2_ n3_; (try clear hb); (try clear hb2); (try clear hk); (try clear hi); have hnb51 := NB355_356.out; have hnc51 := NB356_355.out; have hcz52_0 : w50.cell? ⟨gb355, 0, none⟩ = some (.int .i64 a3_0) := (blk_cell BK355.out 0).trans rfl; have hcz52_1 : w50.cell? ⟨gb355, 1, none⟩ = some (.int .i64 a3_1) := (blk_cell BK355.out 1).trans rfl; have hcz52_2 : w50.cell? ⟨gb355, 2, none⟩ = some (.int .i64 a3_2) := (blk_cell BK355.out 2).trans rfl; have hcz52_3 : w50.cell? ⟨gb355, 3, none⟩ = some (.int .i64 a3_3) := (blk_cell BK355.out 3).trans rfl; have hcz52_4 : w50.cell? ⟨gb355, 4, none⟩ = some (.int .i64 a3_4) := (blk_cell BK355.out 4).trans rfl; have hrw5 : rowAt w50 gb355 30 5 = true := rowAt_of (BK355.out) rfl; have hrc5 : cellsAt w50 gb355 = #[.int .i64 a3_0, .int .i64 a3_1, .int .i64 a3_2, .int .i64 a3_3, .int .i64 a3_4] := cellsAt_of (BK355.out); have hfz52_0 := blk_frozen BK355.out 0; have hfz52_1 := blk_frozen BK355.out 1; have hfz52_2 := blk_frozen BK355.out 2; have hfz52_3 := blk_frozen BK355.out 3; have hfz52_4 := blk_frozen BK355.out 4) | ((with_reducible refine gate_callee (f := 13) rfl ?_); refine goesL_ (some 82) rfl rfl Try.func13 (by kernel_rfl) rfl #[.agg #[.int .i64 a3_0, .int .i64 a3_1, .int .i64 a3_2, .int .i64 a3_3, .int .i64 a3_4]] rfl (by (try simp only [List.map_toArray, List.map_cons, List.map_nil]); first | done | rfl | (simp only [List.length_drop, List.length_take]; rfl)) ?_; (with_reducible refine (servermsg_Put.calls a3_0 a3_1 a3_2 a3_3 a3_4 t366 t367 _ A29.out).mono ?_); rintro e w53 ⟨rfl, hb⟩; refine ⟨_, rfl, ?_⟩; have n0_ := Aside0.mk (blk_below (g := gb354) (o := .cells #[.int .i64 a2_0, .int .i64 a2_1, .int .i64 a2_2, .int .i64 a2_3, .bool a2_4, .bool a2_5, .int .i64 a2_6, .int .i64 a2_7, .int .i64 a2_8, .int .i64 a2_9, .int .i64 a2_10, .int .i64 a2_11, .string a2_12] 26 (0, 0)) (by (with_reducible repeat (first | refine blk_drewN ?_ _ | refine blk_drew ?_ | refine blk_alloc ?_ _)); exact BK354.out) hb); have n1_ := Aside0.mk (blk_below (g := gb355) (o := .cells #[.int .i64 a3_0, .int .i64 a3_1, .int .i64 a3_2, .int .i64 a3_3, .int .i64 a3_4] 30 (0, 0)) (by (with_reducible repeat (first | refine blk_drewN ?_ _ | refine blk_drew ?_ | refine blk_alloc ?_ _)); exact BK355.out) hb); have n2_ := Aside0.mk (blk_below (g := gb356) (o := .cells #[.int .i64 a4_0, .bool a4_1, .int .i64 a4_2, .int .i64 a4_3, .int .i64 a4_4, .int .i64 a4_5, .int .i64 a4_6, .int .i64 a4_7, .int .i64 a4_8, .bool a4_9, .bool a4_10, .int .i64 a4_11, .int .i64 a4_12, .int .i64 a4_13, .int .i64 a4_14, .int .i64 a4_15, .int .i64 a4_16, .slice A4_17 l4_17.length c4_17, .string a4_18] 33 (0, 0)) (by (with_reducible repeat (first | refine blk_drewN ?_ _ | refine blk_drew ?_ | refine blk_alloc ?_ _)); exact BK356.out) hb); have n3_ := Aside0.mk (below_step (by repeat (first | (with_reducible first | exact HB.out | apply below_alloc | apply pw_below_drewN | apply below_drew1 | refine below_set ?_ GE354.out | refine below_set ?_ GE355.out | refine below_set ?_ GE356.out) | exact HB.out)) hb); clear BK354; clear BK355; clear BK356; clear HB; have BK354 := n0_; have BK355 := n1_; have BK356 := n2_; have HB := n3_; clear n0_ n1_ n2_ n3_; (try clear hb); (try clear hb2); (try clear hk); (try clear hi); have hcz54_0 : w53.cell? ⟨gb355, 0, none⟩ = some (.int .i64 a3_0) := (blk_cell BK355.out 0).trans rfl; have hcz54_1 : w53.cell? ⟨gb355, 1, none⟩ = some (.int .i64 a3_1) := (blk_cell BK355.out 1).trans rfl; have hcz54_2 : w53.cell? ⟨gb355, 2, none⟩ = some (.int .i64 a3_2) := (blk_cell BK355.out 2).trans rfl; have hcz54_3 : w53.cell? ⟨gb355, 3, none⟩ = some (.int .i64 a3_3) := (blk_cell BK355.out 3).trans rfl; have hcz54_4 : w53.cell? ⟨gb355, 4, none⟩ = some (.int .i64 a3_4) := (blk_cell BK355.out 4).trans rfl; have hrw6 : rowAt w53 gb355 30 5 = true := rowAt_of (BK355.out) rfl; have hrc6 : cellsAt w53 gb355 = #[.int .i64 a3_0, .int .i64 a3_1, .int .i64 a3_2, .int .i64 a3_3, .int .i64 a3_4] := cellsAt_of (BK355.out); have hfz54_0 := blk_frozen BK355.out 0; have hfz54_1 := blk_frozen BK355.out 1; have hfz54_2 := blk_frozen BK355.out 2; have hfz54_3 := blk_frozen BK355.out 3; have hfz54_4 := blk_frozen BK355.out 4) | ((with_reducible refine gate_callee (f := 14) rfl ?_); refine goesL_ (some 90) rfl rfl Try.func14 (by kernel_rfl) rfl #[.agg #[.int .i64 a3_0, .int .i64 a3_1, .int .i64 a3_2, .int .i64 a3_3], .int .i64 a3_4] rfl (by (try simp only [List.map_toArray, List.map_cons, List.map_nil]); first | done | rfl | (simp only [List.length_drop, List.length_take]; rfl)) ?_; (with_reducible refine (miradorref23_Put.calls kj7 a3_0 a3_1 a3_2 a3_3 a3_4 t368 t369 _ A30.out).mono ?_); rintro e w55 ⟨rfl, hb⟩; refine ⟨_, rfl, ?_⟩; have n0_ := Aside0.mk (blk_below (g := gb354) (o := .cells #[.int .i64 a2_0, .int .i64 a2_1, .int .i64 a2_2, .int .i64 a2_3, .bool a2_4, .bool a2_5, .int .i64 a2_6, .int .i64 a2_7, .int .i64 a2_8, .int .i64 a2_9, .int .i64 a2_10, .int .i64 a2_11, .string a2_12] 26 (0, 0)) (by (with_reducible repeat (first | refine blk_drewN ?_ _ | refine blk_drew ?_ | refine blk_alloc ?_ _)); exact BK354.out) hb); have n1_ := Aside0.mk (blk_below (g := gb355) (o := .cells #[.int .i64 a3_0, .int .i64 a3_1, .int .i64 a3_2, .int .i64 a3_3, .int .i64 a3_4] 30 (0, 0)) (by (with_reducible repeat (first | refine blk_drewN ?_ _ | refine blk_drew ?_ | refine blk_alloc ?_ _)); exact BK355.out) hb); have n2_ := Aside0.mk (blk_below (g := gb356) (o := .cells #[.int .i64 a4_0, .bool a4_1, .int .i64 a4_2, .int .i64 a4_3, .int .i64 a4_4, .int .i64 a4_5, .int .i64 a4_6, .int .i64 a4_7, .int .i64 a4_8, .bool a4_9, .bool a4_10, .int .i64 a4_11, .int .i64 a4_12, .int .i64 a4_13, .int .i64 a4_14, .int .i64 a4_15, .int .i64 a4_16, .slice A4_17 l4_17.length c4_17, .string a4_18] 33 (0, 0)) (by (with_reducible repeat (first | refine blk_drewN ?_ _ | refine blk_drew ?_ | refine blk_alloc ?_ _)); exact BK356.out) hb); have n3_ := Aside0.mk (below_step (by repeat (first | (with_reducible first | exact HB.out | apply below_alloc | apply pw_below_drewN | apply below_drew1 | refine below_set ?_ GE354.out | refine below_set ?_ GE355.out | refine below_set ?_ GE356.out) | exact HB.out)) hb); clear BK354; clear BK355; clear BK356; clear HB; have BK354 := n0_; have BK355 := n1_; have BK356 := n2_; have HB := n3_; clear n0_ n1_ n2_ n3_; (try clear hb); (try clear hb2); (try clear hk); (try clear hi); have hcz56_0 : w55.cell? ⟨gb356, 0, none⟩ = some (.int .i64 a4_0) := (blk_cell BK356.out 0).trans rfl; have hcz56_1 : w55.cell? ⟨gb356, 1, none⟩ = some (.bool a4_1) := (blk_cell BK356.out 1).trans rfl; have hcz56_2 : w55.cell? ⟨gb356, 2, none⟩ = some (.int .i64 a4_2) := (blk_cell BK356.out 2).trans rfl; have hcz56_3 : w55.cell? ⟨gb356, 3, none⟩ = some (.int .i64 a4_3) := (blk_cell BK356.out 3).trans rfl; have hcz56_4 : w55.cell? ⟨gb356, 4, none⟩ = some (.int .i64 a4_4) := (blk_cell BK356.out 4).trans rfl; have hcz56_5 : w55.cell? ⟨gb356, 5, none⟩ = some (.int .i64 a4_5) := (blk_cell BK356.out 5).trans rfl; have hcz56_6 : w55.cell? ⟨gb356, 6, none⟩ = some (.int .i64 a4_6) := (blk_cell BK356.out 6).trans rfl; have hcz56_7 : w55.cell? ⟨gb356, 7, none⟩ = some (.int .i64 a4_7) := (blk_cell BK356.out 7).trans rfl; have hcz56_8 : w55.cell? ⟨gb356, 8, none⟩ = some (.int .i64 a4_8) := (blk_cell BK356.out 8).trans rfl; have hcz56_9 : w55.cell? ⟨gb356, 9, none⟩ = some (.bool a4_9) := (blk_cell BK356.out 9).trans rfl; have hcz56_10 : w55.cell? ⟨gb356, 10, none⟩ = some (.bool a4_10) := (blk_cell BK356.out 10).trans rfl; have hcz56_11 : w55.cell? ⟨gb356, 11, none⟩ = some (.int .i64 a4_11) := (blk_cell BK356.out 11).trans rfl; have hcz56_12 : w55.cell? ⟨gb356, 12, none⟩ = some (.int .i64 a4_12) := (blk_cell BK356.out 12).trans rfl; have hcz56_13 : w55.cell? ⟨gb356, 13, none⟩ = some (.int .i64 a4_13) := (blk_cell BK356.out 13).trans rfl; have hcz56_14 : w55.cell? ⟨gb356, 14, none⟩ = some (.int .i64 a4_14) := (blk_cell BK356.out 14).trans rfl; have hcz56_15 : w55.cell? ⟨gb356, 15, none⟩ = some (.int .i64 a4_15) := (blk_cell BK356.out 15).trans rfl; have hcz56_16 : w55.cell? ⟨gb356, 16, none⟩ = some (.int .i64 a4_16) := (blk_cell BK356.out 16).trans rfl; have hcz56_17 : w55.cell? ⟨gb356, 17, none⟩ = some (.slice A4_17 l4_17.length c4_17) := (blk_cell BK356.out 17).trans rfl; have hcz56_18 : w55.cell? ⟨gb356, 18, none⟩ = some (.string a4_18) := (blk_cell BK356.out 18).trans rfl; have hrw7 : rowAt w55 gb356 33 19 = true := rowAt_of (BK356.out) rfl; have hrc7 : cellsAt w55 gb356 = #[.int .i64 a4_0, .bool a4_1, .int .i64 a4_2, .int .i64 a4_3, .int .i64 a4_4, .int .i64 a4_5, .int .i64 a4_6, .int .i64 a4_7, .int .i64 a4_8, .bool a4_9, .bool a4_10, .int .i64 a4_11, .int .i64 a4_12, .int .i64 a4_13, .int .i64 a4_14, .int .i64 a4_15, .int .i64 a4_16, .slice A4_17 l4_17.length c4_17, .string a4_18] := cellsAt_of (BK356.out); have hfz56_0 := blk_frozen BK356.out 0; have hfz56_1 := blk_frozen BK356.out 1; have hfz56_2 := blk_frozen BK356.out 2; have hfz56_3 := blk_frozen BK356.out 3; have hfz56_4 := blk_frozen BK356.out 4; have hfz56_5 := blk_frozen BK356.out 5; have hfz56_6 := blk_frozen BK356.out 6; have hfz56_7 := blk_frozen BK356.out 7; have hfz56_8 := blk_frozen BK356.out 8; have hfz56_9 := blk_frozen BK356.out 9; have hfz56_10 := blk_frozen BK356.out 10; have hfz56_11 := blk_frozen BK356.out 11; have hfz56_12 := blk_frozen BK356.out 12; have hfz56_13 := blk_frozen BK356.out 13; have hfz56_14 := blk_frozen BK356.out 14; have hfz56_15 := blk_frozen BK356.out 15; have hfz56_16 := blk_frozen BK356.out 16; have hfz56_17 := blk_frozen BK356.out 17; have hfz56_18 := blk_frozen BK356.out 18) | ((with_reducible refine gate_callee (f := 15) rfl ?_); refine goesL_ (some 95) rfl rfl Try.func15 (by kernel_rfl) rfl #[.agg #[.int .i64 a4_0, .bool a4_1, .int .i64 a4_2, .int .i64 a4_3, .int .i64 a4_4, .int .i64 a4_5, .int .i64 a4_6, .int .i64 a4_7, .int .i64 a4_8, .bool a4_9, .bool a4_10, .int .i64 a4_11, .int .i64 a4_12, .int .i64 a4_13, .int .i64 a4_14, .int .i64 a4_15, .int .i64 a4_16, .slice A4_17 l4_17.length c4_17, .string a4_18]] rfl (by (try simp only [List.map_toArray, List.map_cons, List.map_nil]); first | done | rfl | (simp only [List.length_drop, List.length_take]; rfl)) ?_; (with_reducible refine (servermsg_Say.calls a4_0 a4_1 a4_2 a4_3 a4_4 a4_5 a4_6 a4_7 a4_8 a4_9 a4_10 a4_11 a4_12 a4_13 a4_14 a4_15 a4_16 _ _ l4_17 a4_18 t370 t371 _ ?side1 ?side2 A31.out).mono ?_); (case side1 => repeat (first | exact (Kd.C_below HR4_17.out HB.out) | (with_reducible refine Kd.C_alloc ?_ _) | (with_reducible refine Kd.C_drewN ?_ _) | (with_reducible refine Kd.C_drew ?_))); (case side2 => exact HC4_17.out); rintro e w57 ⟨rfl, hb⟩; refine ⟨_, rfl, ?_⟩; have n0_ := Aside0.mk (blk_below (g := gb354) (o := .cells #[.int .i64 a2_0, .int .i64 a2_1, .int .i64 a2_2, .int .i64 a2_3, .bool a2_4, .bool a2_5, .int .i64 a2_6, .int .i64 a2_7, .int .i64 a2_8, .int .i64 a2_9, .int .i64 a2_10, .int .i64 a2_11, .string a2_12] 26 (0, 0)) (by (with_reducible repeat (first | refine blk_drewN ?_ _ | refine blk_drew ?_ | refine blk_alloc ?_ _)); exact BK354.out) hb); have n1_ := Aside0.mk (blk_below (g := gb355) (o := .cells #[.int .i64 a3_0, .int .i64 a3_1, .int .i64 a3_2, .int .i64 a3_3, .int .i64 a3_4] 30 (0, 0)) (by (with_reducible repeat (first | refine blk_drewN ?_ _ | refine blk_drew ?_ | refine blk_alloc ?_ _)); exact BK355.out) hb); have n2_ := Aside0.mk (blk_below (g := gb356) (o := .cells #[.int .i64 a4_0, .bool a4_1, .int .i64 a4_2, .int .i64 a4_3, .int .i64 a4_4, .int .i64 a4_5, .int .i64 a4_6, .int .i64 a4_7, .int .i64 a4_8, .bool a4_9, .bool a4_10, .int .i64 a4_11, .int .i64 a4_12, .int .i64 a4_13, .int .i64 a4_14, .int .i64 a4_15, .int .i64 a4_16, .slice A4_17 l4_17.length c4_17, .string a4_18] 33 (0, 0)) (by (with_reducible repeat (first | refine blk_drewN ?_ _ | refine blk_drew ?_ | refine blk_alloc ?_ _)); exact BK356.out) hb); have n3_ := Aside0.mk (below_step (by repeat (first | (with_reducible first | exact HB.out | apply below_alloc | apply pw_below_drewN | apply below_drew1 | refine below_set ?_ GE354.out | refine below_set ?_ GE355.out | refine below_set ?_ GE356.out) | exact HB.out)) hb); clear BK354; clear BK355; clear BK356; clear HB; have BK354 := n0_; have BK355 := n1_; have BK356 := n2_; have HB := n3_; clear n0_ n1_ n2_ n3_; (try clear hb); (try clear hb2); (try clear hk); (try clear hi); have hcz58_0 : w57.cell? ⟨gb356, 0, none⟩ = some (.int .i64 a4_0) := (blk_cell BK356.out 0).trans rfl; have hcz58_1 : w57.cell? ⟨gb356, 1, none⟩ = some (.bool a4_1) := (blk_cell BK356.out 1).trans rfl; have hcz58_2 : w57.cell? ⟨gb356, 2, none⟩ = some (.int .i64 a4_2) := (blk_cell BK356.out 2).trans rfl; have hcz58_3 : w57.cell? ⟨gb356, 3, none⟩ = some (.int .i64 a4_3) := (blk_cell BK356.out 3).trans rfl; have hcz58_4 : w57.cell? ⟨gb356, 4, none⟩ = some (.int .i64 a4_4) := (blk_cell BK356.out 4).trans rfl; have hcz58_5 : w57.cell? ⟨gb356, 5, none⟩ = some (.int .i64 a4_5) := (blk_cell BK356.out 5).trans rfl; have hcz58_6 : w57.cell? ⟨gb356, 6, none⟩ = some (.int .i64 a4_6) := (blk_cell BK356.out 6).trans rfl; have hcz58_7 : w57.cell? ⟨gb356, 7, none⟩ = some (.int .i64 a4_7) := (blk_cell BK356.out 7).trans rfl; have hcz58_8 : w57.cell? ⟨gb356, 8, none⟩ = some (.int .i64 a4_8) := (blk_cell BK356.out 8).trans rfl; have hcz58_9 : w57.cell? ⟨gb356, 9, none⟩ = some (.bool a4_9) := (blk_cell BK356.out 9).trans rfl; have hcz58_10 : w57.cell? ⟨gb356, 10, none⟩ = some (.bool a4_10) := (blk_cell BK356.out 10).trans rfl; have hcz58_11 : w57.cell? ⟨gb356, 11, none⟩ = some (.int .i64 a4_11) := (blk_cell BK356.out 11).trans rfl; have hcz58_12 : w57.cell? ⟨gb356, 12, none⟩ = some (.int .i64 a4_12) := (blk_cell BK356.out 12).trans rfl; have hcz58_13 : w57.cell? ⟨gb356, 13, none⟩ = some (.int .i64 a4_13) := (blk_cell BK356.out 13).trans rfl; have hcz58_14 : w57.cell? ⟨gb356, 14, none⟩ = some (.int .i64 a4_14) := (blk_cell BK356.out 14).trans rfl; have hcz58_15 : w57.cell? ⟨gb356, 15, none⟩ = some (.int .i64 a4_15) := (blk_cell BK356.out 15).trans rfl; have hcz58_16 : w57.cell? ⟨gb356, 16, none⟩ = some (.int .i64 a4_16) := (blk_cell BK356.out 16).trans rfl; have hcz58_17 : w57.cell? ⟨gb356, 17, none⟩ = some (.slice A4_17 l4_17.length c4_17) := (blk_cell BK356.out 17).trans rfl; have hcz58_18 : w57.cell? ⟨gb356, 18, none⟩ = some (.string a4_18) := (blk_cell BK356.out 18).trans rfl; have hrw8 : rowAt w57 gb356 33 19 = true := rowAt_of (BK356.out) rfl; have hrc8 : cellsAt w57 gb356 = #[.int .i64 a4_0, .bool a4_1, .int .i64 a4_2, .int .i64 a4_3, .int .i64 a4_4, .int .i64 a4_5, .int .i64 a4_6, .int .i64 a4_7, .int .i64 a4_8, .bool a4_9, .bool a4_10, .int .i64 a4_11, .int .i64 a4_12, .int .i64 a4_13, .int .i64 a4_14, .int .i64 a4_15, .int .i64 a4_16, .slice A4_17 l4_17.length c4_17, .string a4_18] := cellsAt_of (BK356.out); have hfz58_0 := blk_frozen BK356.out 0; have hfz58_1 := blk_frozen BK356.out 1; have hfz58_2 := blk_frozen BK356.out 2; have hfz58_3 := blk_frozen BK356.out 3; have hfz58_4 := blk_frozen BK356.out 4; have hfz58_5 := blk_frozen BK356.out 5; have hfz58_6 := blk_frozen BK356.out 6; have hfz58_7 := blk_frozen BK356.out 7; have hfz58_8 := blk_frozen BK356.out 8; have hfz58_9 := blk_frozen BK356.out 9; have hfz58_10 := blk_frozen BK356.out 10; have hfz58_11 := blk_frozen BK356.out 11; have hfz58_12 := blk_frozen BK356.out 12; have hfz58_13 := blk_frozen BK356.out 13; have hfz58_14 := blk_frozen BK356.out 14; have hfz58_15 := blk_frozen BK356.out 15; have hfz58_16 := blk_frozen BK356.out 16; have hfz58_17 := blk_frozen BK356.out 17; have hfz58_18 := blk_frozen BK356.out 18) | ((with_reducible refine gate_callee (f := 16) rfl ?_); refine goesL_ (some 100) rfl rfl Try.func16 (by kernel_rfl) rfl #[.agg #[.int .i64 a4_0, .bool a4_1, .int .i64 a4_2, .int .i64 a4_3, .int .i64 a4_4, .int .i64 a4_5, .int .i64 a4_6, .int .i64 a4_7, .int .i64 a4_8, .bool a4_9, .bool a4_10, .int .i64 a4_11, .int .i64 a4_12, .int .i64 a4_13, .int .i64 a4_14, .int .i64 a4_15, .int .i64 a4_16, .slice A4_17 l4_17.length c4_17, .string a4_18]] rfl (by (try simp only [List.map_toArray, List.map_cons, List.map_nil]); first | done | rfl | (simp only [List.length_drop, List.length_take]; rfl)) ?_; (with_reducible refine (miradorref23_Say.calls kj7 a4_0 a4_1 a4_2 a4_3 a4_4 a4_5 a4_6 a4_7 a4_8 a4_9 a4_10 a4_11 a4_12 a4_13 a4_14 a4_15 a4_16 _ _ l4_17 a4_18 t372 t373 _ ?side1 ?side2 A32.out).mono ?_); (case side1 => repeat (first | exact (Kd.C_below HR4_17.out HB.out) | (with_reducible refine Kd.C_alloc ?_ _) | (with_reducible refine Kd.C_drewN ?_ _) | (with_reducible refine Kd.C_drew ?_))); (case side2 => exact HC4_17.out); rintro e w59 ⟨rfl, hb⟩; refine ⟨_, rfl, ?_⟩; have n0_ := Aside0.mk (blk_below (g := gb354) (o := .cells #[.int .i64 a2_0, .int .i64 a2_1, .int .i64 a2_2, .int .i64 a2_3, .bool a2_4, .bool a2_5, .int .i64 a2_6, .int .i64 a2_7, .int .i64 a2_8, .int .i64 a2_9, .int .i64 a2_10, .int .i64 a2_11, .string a2_12] 26 (0, 0)) (by (with_reducible repeat (first | refine blk_drewN ?_ _ | refine blk_drew ?_ | refine blk_alloc ?_ _)); exact BK354.out) hb); have n1_ := Aside0.mk (blk_below (g := gb355) (o := .cells #[.int .i64 a3_0, .int .i64 a3_1, .int .i64 a3_2, .int .i64 a3_3, .int .i64 a3_4] 30 (0, 0)) (by (with_reducible repeat (first | refine blk_drewN ?_ _ | refine blk_drew ?_ | refine blk_alloc ?_ _)); exact BK355.out) hb); have n2_ := Aside0.mk (blk_below (g := gb356) (o := .cells #[.int .i64 a4_0, .bool a4_1, .int .i64 a4_2, .int .i64 a4_3, .int .i64 a4_4, .int .i64 a4_5, .int .i64 a4_6, .int .i64 a4_7, .int .i64 a4_8, .bool a4_9, .bool a4_10, .int .i64 a4_11, .int .i64 a4_12, .int .i64 a4_13, .int .i64 a4_14, .int .i64 a4_15, .int .i64 a4_16, .slice A4_17 l4_17.length c4_17, .string a4_18] 33 (0, 0)) (by (with_reducible repeat (first | refine blk_drewN ?_ _ | refine blk_drew ?_ | refine blk_alloc ?_ _)); exact BK356.out) hb); have n3_ := Aside0.mk (below_step (by repeat (first | (with_reducible first | exact HB.out | apply below_alloc | apply pw_below_drewN | apply below_drew1 | refine below_set ?_ GE354.out | refine below_set ?_ GE355.out | refine below_set ?_ GE356.out) | exact HB.out)) hb); clear BK354; clear BK355; clear BK356; clear HB; have BK354 := n0_; have BK355 := n1_; have BK356 := n2_; have HB := n3_; clear n0_ n1_ n2_ n3_; (try clear hb); (try clear hb2); (try clear hk); (try clear hi)) | (go_at_call 17; (with_reducible refine (servermsg_Result.calls a1 t374 _ A41.out).mono ?_); rintro e w60 ⟨rfl, hb⟩; have n0_ := Aside0.mk (blk_below (g := gb354) (o := .cells #[.int .i64 a2_0, .int .i64 a2_1, .int .i64 a2_2, .int .i64 a2_3, .bool a2_4, .bool a2_5, .int .i64 a2_6, .int .i64 a2_7, .int .i64 a2_8, .int .i64 a2_9, .int .i64 a2_10, .int .i64 a2_11, .string a2_12] 26 (0, 0)) (by (with_reducible repeat (first | refine blk_drewN ?_ _ | refine blk_drew ?_ | refine blk_alloc ?_ _)); exact BK354.out) hb); have n1_ := Aside0.mk (blk_below (g := gb355) (o := .cells #[.int .i64 a3_0, .int .i64 a3_1, .int .i64 a3_2, .int .i64 a3_3, .int .i64 a3_4] 30 (0, 0)) (by (with_reducible repeat (first | refine blk_drewN ?_ _ | refine blk_drew ?_ | refine blk_alloc ?_ _)); exact BK355.out) hb); have n2_ := Aside0.mk (blk_below (g := gb356) (o := .cells #[.int .i64 a4_0, .bool a4_1, .int .i64 a4_2, .int .i64 a4_3, .int .i64 a4_4, .int .i64 a4_5, .int .i64 a4_6, .int .i64 a4_7, .int .i64 a4_8, .bool a4_9, .bool a4_10, .int .i64 a4_11, .int .i64 a4_12, .int .i64 a4_13, .int .i64 a4_14, .int .i64 a4_15, .int .i64 a4_16, .slice A4_17 l4_17.length c4_17, .string a4_18] 33 (0, 0)) (by (with_reducible repeat (first | refine blk_drewN ?_ _ | refine blk_drew ?_ | refine blk_alloc ?_ _)); exact BK356.out) hb); have n3_ := Aside0.mk (below_step (by repeat (first | (with_reducible first | exact HB.out | apply below_alloc | apply pw_below_drewN | apply below_drew1 | refine below_set ?_ GE354.out | refine below_set ?_ GE355.out | refine below_set ?_ GE356.out) | exact HB.out)) hb); clear BK354; clear BK355; clear BK356; clear HB; have BK354 := n0_; have BK355 := n1_; have BK356 := n2_; have HB := n3_; clear n0_ n1_ n2_ n3_; (try clear hb); (try clear hb2); (try clear hk); (try clear hi)) | (go_at_call 18; (with_reducible refine (miradorref23_Result.calls kj7 a1 t375 _ A42.out).mono ?_); rintro e w61 ⟨rfl, hb⟩; have n0_ := Aside0.mk (blk_below (g := gb354) (o := .cells #[.int .i64 a2_0, .int .i64 a2_1, .int .i64 a2_2, .int .i64 a2_3, .bool a2_4, .bool a2_5, .int .i64 a2_6, .int .i64 a2_7, .int .i64 a2_8, .int .i64 a2_9, .int .i64 a2_10, .int .i64 a2_11, .string a2_12] 26 (0, 0)) (by (with_reducible repeat (first | refine blk_drewN ?_ _ | refine blk_drew ?_ | refine blk_alloc ?_ _)); exact BK354.out) hb); have n1_ := Aside0.mk (blk_below (g := gb355) (o := .cells #[.int .i64 a3_0, .int .i64 a3_1, .int .i64 a3_2, .int .i64 a3_3, .int .i64 a3_4] 30 (0, 0)) (by (with_reducible repeat (first | refine blk_drewN ?_ _ | refine blk_drew ?_ | refine blk_alloc ?_ _)); exact BK355.out) hb); have n2_ := Aside0.mk (blk_below (g := gb356) (o := .cells #[.int .i64 a4_0, .bool a4_1, .int .i64 a4_2, .int .i64 a4_3, .int .i64 a4_4, .int .i64 a4_5, .int .i64 a4_6, .int .i64 a4_7, .int .i64 a4_8, .bool a4_9, .bool a4_10, .int .i64 a4_11, .int .i64 a4_12, .int .i64 a4_13, .int .i64 a4_14, .int .i64 a4_15, .int .i64 a4_16, .slice A4_17 l4_17.length c4_17, .string a4_18] 33 (0, 0)) (by (with_reducible repeat (first | refine blk_drewN ?_ _ | refine blk_drew ?_ | refine blk_alloc ?_ _)); exact BK356.out) hb); have n3_ := Aside0.mk (below_step (by repeat (first | (with_reducible first | exact HB.out | apply below_alloc | apply pw_below_drewN | apply below_drew1 | refine below_set ?_ GE354.out | refine below_set ?_ GE355.out | refine below_set ?_ GE356.out) | exact HB.out)) hb); clear BK354; clear BK355; clear BK356; clear HB; have BK354 := n0_; have BK355 := n1_; have BK356 := n2_; have HB := n3_; clear n0_ n1_ n2_ n3_; (try clear hb); (try clear hb2); (try clear hk); (try clear hi)))
             go_ret
             exact ⟨by first | rfl | (simp [errW_none, errW_some] <;> rfl) | (simp [*, errW_none, errW_some] <;> rfl), by repeat (first | (with_reducible first | exact HB.out | apply below_alloc | apply pw_below_drewN | apply below_drew1 | refine below_set ?_ GE354.out | refine below_set ?_ GE355.out | refine below_set ?_ GE356.out) | exact HB.out)⟩
            ·rw [if_neg c40] at H
             have c40b0 : (t371 == t373) = false := beq_eq_false_iff_ne.mpr c40
             have c40b1 : (t371 != t373) = true := bne_iff_ne.mpr c40
             rw [HRT.out] at H
             exact absurd (Option.some.inj H) (by decide)
           ·rw [if_neg c39] at H
            have c39b0 : (t370.toList == t372.toList) = false := beq_eq_false_iff_ne.mpr c39
            have c39b1 : (t370.toList != t372.toList) = true := bne_iff_ne.mpr c39
            rw [HRT.out] at H
            exact absurd (Option.some.inj H) (by decide)
          ·rw [if_neg c38] at H
           have c38b0 : (t367 == t369) = false := beq_eq_false_iff_ne.mpr c38
           have c38b1 : (t367 != t369) = true := bne_iff_ne.mpr c38
           rw [HRT.out] at H
           exact absurd (Option.some.inj H) (by decide)
         ·rw [if_neg c37] at H
          have c37b0 : (t366.toList == t368.toList) = false := beq_eq_false_iff_ne.mpr c37
          have c37b1 : (t366.toList != t368.toList) = true := bne_iff_ne.mpr c37
          rw [HRT.out] at H
          exact absurd (Option.some.inj H) (by decide)
        ·rw [if_neg c36] at H
         have c36b0 : (t363 == t365) = false := beq_eq_false_iff_ne.mpr c36
         have c36b1 : (t363 != t365) = true := bne_iff_ne.mpr c36
         rw [HRT.out] at H
         exact absurd (Option.some.inj H) (by decide)
       ·rw [if_neg c35] at H
        have c35b0 : (t362.toList == t364.toList) = false := beq_eq_false_iff_ne.mpr c35
        have c35b1 : (t362.toList != t364.toList) = true := bne_iff_ne.mpr c35
        rw [HRT.out] at H
        exact absurd (Option.some.inj H) (by decide)
      ·rw [if_neg c34] at H
       have c34b0 : (t359 == t361) = false := beq_eq_false_iff_ne.mpr c34
       have c34b1 : (t359 != t361) = true := bne_iff_ne.mpr c34
       rw [HRT.out] at H
       exact absurd (Option.some.inj H) (by decide)
     ·rw [if_neg c33] at H
      have c33b0 : (t358.toList == t360.toList) = false := beq_eq_false_iff_ne.mpr c33
      have c33b1 : (t358.toList != t360.toList) = true := bne_iff_ne.mpr c33
      rw [HRT.out] at H
      exact absurd (Option.some.inj H) (by decide)
 ·replace c7 := Bool.eq_false_iff.mpr c7
  subst c7
  have H1 : (some false) = some r := by rw [if_neg (show ¬ (false = true) by decide)] at H; exact H
  clear H
  have H := H1
  clear H1
  rw [HRT.out] at H
  exact absurd (Option.some.inj H) (by decide)

end Go.Proofs.Ytpackckoblpbfaa.X
