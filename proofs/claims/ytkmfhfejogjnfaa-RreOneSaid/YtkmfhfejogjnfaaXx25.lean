/- What each Go function that these laws use answers: as a Lean function, with the proof that the machine's call comes to it. Written by a program of this session (xprint.py). -/
import Derived.Test.YtkmfhfejogjnfaaXx0
import Derived.Test.YtkmfhfejogjnfaaXx18
import Derived.Test.YtkmfhfejogjnfaaXx23
import Derived.Test.YtkmfhfejogjnfaaXx24
namespace Go.Proofs.Ytkmfhfejogjnfaa.X
open Go.RowKit Go.Proofs.YtkmfhfejogjnfaaW.PrintWords Go.Proofs.YtkmfhfejogjnfaaW.PrintLast Go.Proofs.YtkmfhfejogjnfaaW.PrintMore
attribute [local go_sem] max2_int min2_int max_two min_two max_three min_three max_four min_four   -- for this text's walks alone
set_option linter.unusedVariables false
set_option linter.unusedSimpArgs false

/-! ### rre_draw: function 43 -/
mutual
def rre_draw.l0 : Nat → Int → Int → List Int → Int → Int → ByteArray → Int → Int → Int → Int → Bool → Bool → Int → Int → Int → Int → Int → Int → Option (Int × ByteArray × Int × Int × List Int)
  | 0, _, _, _, _, _, _, _, _, _, _, _, _, _, _, _, _, _, _ => none
  | k + 1, x2, x3, x5, x19, x20, x1000, x1001, x1002, x185000, x185001, x185002, x185003, x185004, x185005, x185006, x185007, x185008, x185009 => if x20 < x19 then ((rre_next.f k x1000 x1001 x1002 x185000 x185001 x185002 x185003 x185004 x185005 x185006 x185007 x185008 x185009).bind fun bt185 => (if bt185.2.2.2.2.2.1 = 0 then ((screen_Inside.f bt185.2.1 bt185.2.2.1 bt185.2.2.2.1 bt185.2.2.2.2.1 x2 x3).bind fun t195 => (if t195 = true then ((format_Colour.f x185000 x185001 x185002 x185003 x185004 x185005 x185006 x185007 x185008 x185009 bt185.1).bind fun t196 => (rre_draw.l1 k x2 x3 x5 t196 x19 x20 bt185.2.2.2.2.1 0 bt185.2.2.2.2.2.2.1 bt185.2.2.2.2.2.2.2.1 bt185.2.2.2.2.2.2.2.2 x185000 x185001 x185002 x185003 x185004 x185005 x185006 x185007 x185008 x185009 bt185.1 bt185.2.1 bt185.2.2.1 bt185.2.2.2.1 bt185.2.2.2.2.1)) else (some (140, bt185.2.2.2.2.2.2.1, bt185.2.2.2.2.2.2.2.1, bt185.2.2.2.2.2.2.2.2, x5)))) else (some (bt185.2.2.2.2.2.1, bt185.2.2.2.2.2.2.1, bt185.2.2.2.2.2.2.2.1, bt185.2.2.2.2.2.2.2.2, x5)))) else (some (0, x1000, x1001, x1002, x5))
def rre_draw.l1 : Nat → Int → Int → List Int → Int → Int → Int → Int → Int → ByteArray → Int → Int → Int → Int → Bool → Bool → Int → Int → Int → Int → Int → Int → Int → Int → Int → Int → Int → Option (Int × ByteArray × Int × Int × List Int)
  | 0, _, _, _, _, _, _, _, _, _, _, _, _, _, _, _, _, _, _, _, _, _, _, _, _, _, _ => none
  | k + 1, x2, x3, x5, x15, x19, x20, x45, x46, x1000, x1001, x1002, x185000, x185001, x185002, x185003, x185004, x185005, x185006, x185007, x185008, x185009, x195000, x195001, x195002, x195003, x195004 => if x46 < x45 then (rre_draw.l2 k x2 x3 x5 x15 (wrap64 ((wrap64 ((wrap64 (x195002 + x46)) * x2)) + x195001)) x19 x20 x45 x46 x195003 0 x1000 x1001 x1002 x185000 x185001 x185002 x185003 x185004 x185005 x185006 x185007 x185008 x185009 x195000 x195001 x195002 x195003 x195004) else (rre_draw.l0 k x2 x3 x5 x19 (wrap64 (x20 + 1)) x1000 x1001 x1002 x185000 x185001 x185002 x185003 x185004 x185005 x185006 x185007 x185008 x185009)
def rre_draw.l2 : Nat → Int → Int → List Int → Int → Int → Int → Int → Int → Int → Int → Int → ByteArray → Int → Int → Int → Int → Bool → Bool → Int → Int → Int → Int → Int → Int → Int → Int → Int → Int → Int → Option (Int × ByteArray × Int × Int × List Int)
  | 0, _, _, _, _, _, _, _, _, _, _, _, _, _, _, _, _, _, _, _, _, _, _, _, _, _, _, _, _, _ => none
  | k + 1, x2, x3, x5, x15, x17, x19, x20, x45, x46, x62, x63, x1000, x1001, x1002, x185000, x185001, x185002, x185003, x185004, x185005, x185006, x185007, x185008, x185009, x195000, x195001, x195002, x195003, x195004 => if x63 < x62 then (if 0 ≤ (wrap64 (x17 + x63)) then (if (wrap64 (x17 + x63)) < (x5.length : Int) then (rre_draw.l2 k x2 x3 (x5.set ((wrap64 (x17 + x63)) : Int).toNat x15) x15 x17 x19 x20 x45 x46 x62 (wrap64 (x63 + 1)) x1000 x1001 x1002 x185000 x185001 x185002 x185003 x185004 x185005 x185006 x185007 x185008 x185009 x195000 x195001 x195002 x195003 x195004) else (none)) else (none)) else (rre_draw.l1 k x2 x3 x5 x15 x19 x20 x45 (wrap64 (x46 + 1)) x1000 x1001 x1002 x185000 x185001 x185002 x185003 x185004 x185005 x185006 x185007 x185008 x185009 x195000 x195001 x195002 x195003 x195004)
end
def rre_draw.f (k : Nat) (s0_0 : ByteArray) (s0_1 : Int) (s0_2 : Int) (a1_0 : Int) (a1_1 : Int) (a1_2 : Bool) (a1_3 : Bool) (a1_4 : Int) (a1_5 : Int) (a1_6 : Int) (a1_7 : Int) (a1_8 : Int) (a1_9 : Int) (a2 : Int) (a3 : Int) (a4 : Int) (l5 : List Int) : Option (Int × ByteArray × Int × Int × List Int) := rre_draw.l0 k a2 a3 l5 a4 0 s0_0 s0_1 s0_2 a1_0 a1_1 a1_2 a1_3 a1_4 a1_5 a1_6 a1_7 a1_8 a1_9
theorem rre_draw.mono_l : ∀ k, (∀ y0 y1 y2 y3 y4 y5 y6 y7 y8 y9 y10 y11 y12 y13 y14 y15 y16 y17, LeO (rre_draw.l0 k y0 y1 y2 y3 y4 y5 y6 y7 y8 y9 y10 y11 y12 y13 y14 y15 y16 y17) (rre_draw.l0 (k + 1) y0 y1 y2 y3 y4 y5 y6 y7 y8 y9 y10 y11 y12 y13 y14 y15 y16 y17)) ∧ (∀ y0 y1 y2 y3 y4 y5 y6 y7 y8 y9 y10 y11 y12 y13 y14 y15 y16 y17 y18 y19 y20 y21 y22 y23 y24 y25, LeO (rre_draw.l1 k y0 y1 y2 y3 y4 y5 y6 y7 y8 y9 y10 y11 y12 y13 y14 y15 y16 y17 y18 y19 y20 y21 y22 y23 y24 y25) (rre_draw.l1 (k + 1) y0 y1 y2 y3 y4 y5 y6 y7 y8 y9 y10 y11 y12 y13 y14 y15 y16 y17 y18 y19 y20 y21 y22 y23 y24 y25)) ∧ (∀ y0 y1 y2 y3 y4 y5 y6 y7 y8 y9 y10 y11 y12 y13 y14 y15 y16 y17 y18 y19 y20 y21 y22 y23 y24 y25 y26 y27 y28, LeO (rre_draw.l2 k y0 y1 y2 y3 y4 y5 y6 y7 y8 y9 y10 y11 y12 y13 y14 y15 y16 y17 y18 y19 y20 y21 y22 y23 y24 y25 y26 y27 y28) (rre_draw.l2 (k + 1) y0 y1 y2 y3 y4 y5 y6 y7 y8 y9 y10 y11 y12 y13 y14 y15 y16 y17 y18 y19 y20 y21 y22 y23 y24 y25 y26 y27 y28))
  | 0 => ⟨fun _ _ _ _ _ _ _ _ _ _ _ _ _ _ _ _ _ _ r h => by simp [rre_draw.l0] at h, fun _ _ _ _ _ _ _ _ _ _ _ _ _ _ _ _ _ _ _ _ _ _ _ _ _ _ r h => by simp [rre_draw.l1] at h, fun _ _ _ _ _ _ _ _ _ _ _ _ _ _ _ _ _ _ _ _ _ _ _ _ _ _ _ _ _ r h => by simp [rre_draw.l2] at h⟩
  | k + 1 => by
    obtain ⟨ih0, ih1, ih2⟩ := rre_draw.mono_l k
    refine ⟨?_, ?_, ?_⟩
    · intro y0 y1 y2 y3 y4 y5 y6 y7 y8 y9 y10 y11 y12 y13 y14 y15 y16 y17
      unfold rre_draw.l0
      repeat' first
      | (with_reducible exact ih0 _ _ _ _ _ _ _ _ _ _ _ _ _ _ _ _ _ _)
      | (with_reducible exact ih1 _ _ _ _ _ _ _ _ _ _ _ _ _ _ _ _ _ _ _ _ _ _ _ _ _ _)
      | (with_reducible exact ih2 _ _ _ _ _ _ _ _ _ _ _ _ _ _ _ _ _ _ _ _ _ _ _ _ _ _ _ _ _)
      | (with_reducible exact rre_next.mono _ _ _ _ _ _ _ _ _ _ _ _ _ _)
      | (with_reducible exact LeO.refl _)
      | (with_reducible exact LeO.none _)
      | (with_reducible refine LeO.ite ?_ ?_)
      | (with_reducible refine LeO.bind ?_ (fun _ => ?_))
      | exact ih0 _ _ _ _ _ _ _ _ _ _ _ _ _ _ _ _ _ _
      | exact ih1 _ _ _ _ _ _ _ _ _ _ _ _ _ _ _ _ _ _ _ _ _ _ _ _ _ _
      | exact ih2 _ _ _ _ _ _ _ _ _ _ _ _ _ _ _ _ _ _ _ _ _ _ _ _ _ _ _ _ _
      | exact rre_next.mono _ _ _ _ _ _ _ _ _ _ _ _ _ _
      | exact LeO.none _
      | refine LeO.ite ?_ ?_
      | refine LeO.bind ?_ (fun _ => ?_)
    · intro y0 y1 y2 y3 y4 y5 y6 y7 y8 y9 y10 y11 y12 y13 y14 y15 y16 y17 y18 y19 y20 y21 y22 y23 y24 y25
      unfold rre_draw.l1
      repeat' first
      | (with_reducible exact ih0 _ _ _ _ _ _ _ _ _ _ _ _ _ _ _ _ _ _)
      | (with_reducible exact ih1 _ _ _ _ _ _ _ _ _ _ _ _ _ _ _ _ _ _ _ _ _ _ _ _ _ _)
      | (with_reducible exact ih2 _ _ _ _ _ _ _ _ _ _ _ _ _ _ _ _ _ _ _ _ _ _ _ _ _ _ _ _ _)
      | (with_reducible exact rre_next.mono _ _ _ _ _ _ _ _ _ _ _ _ _ _)
      | (with_reducible exact LeO.refl _)
      | (with_reducible exact LeO.none _)
      | (with_reducible refine LeO.ite ?_ ?_)
      | (with_reducible refine LeO.bind ?_ (fun _ => ?_))
      | exact ih0 _ _ _ _ _ _ _ _ _ _ _ _ _ _ _ _ _ _
      | exact ih1 _ _ _ _ _ _ _ _ _ _ _ _ _ _ _ _ _ _ _ _ _ _ _ _ _ _
      | exact ih2 _ _ _ _ _ _ _ _ _ _ _ _ _ _ _ _ _ _ _ _ _ _ _ _ _ _ _ _ _
      | exact rre_next.mono _ _ _ _ _ _ _ _ _ _ _ _ _ _
      | exact LeO.none _
      | refine LeO.ite ?_ ?_
      | refine LeO.bind ?_ (fun _ => ?_)
    · intro y0 y1 y2 y3 y4 y5 y6 y7 y8 y9 y10 y11 y12 y13 y14 y15 y16 y17 y18 y19 y20 y21 y22 y23 y24 y25 y26 y27 y28
      unfold rre_draw.l2
      repeat' first
      | (with_reducible exact ih0 _ _ _ _ _ _ _ _ _ _ _ _ _ _ _ _ _ _)
      | (with_reducible exact ih1 _ _ _ _ _ _ _ _ _ _ _ _ _ _ _ _ _ _ _ _ _ _ _ _ _ _)
      | (with_reducible exact ih2 _ _ _ _ _ _ _ _ _ _ _ _ _ _ _ _ _ _ _ _ _ _ _ _ _ _ _ _ _)
      | (with_reducible exact rre_next.mono _ _ _ _ _ _ _ _ _ _ _ _ _ _)
      | (with_reducible exact LeO.refl _)
      | (with_reducible exact LeO.none _)
      | (with_reducible refine LeO.ite ?_ ?_)
      | (with_reducible refine LeO.bind ?_ (fun _ => ?_))
      | exact ih0 _ _ _ _ _ _ _ _ _ _ _ _ _ _ _ _ _ _
      | exact ih1 _ _ _ _ _ _ _ _ _ _ _ _ _ _ _ _ _ _ _ _ _ _ _ _ _ _
      | exact ih2 _ _ _ _ _ _ _ _ _ _ _ _ _ _ _ _ _ _ _ _ _ _ _ _ _ _ _ _ _
      | exact rre_next.mono _ _ _ _ _ _ _ _ _ _ _ _ _ _
      | exact LeO.none _
      | refine LeO.ite ?_ ?_
      | refine LeO.bind ?_ (fun _ => ?_)
theorem rre_draw.mono : ∀ a0 a1 a2 a3 a4 a5 a6 a7 a8 a9 a10 a11 a12 a13 a14 a15 a16 k, LeO (rre_draw.f k a0 a1 a2 a3 a4 a5 a6 a7 a8 a9 a10 a11 a12 a13 a14 a15 a16) (rre_draw.f (k + 1) a0 a1 a2 a3 a4 a5 a6 a7 a8 a9 a10 a11 a12 a13 a14 a15 a16) := by
  intro a0 a1 a2 a3 a4 a5 a6 a7 a8 a9 a10 a11 a12 a13 a14 a15 a16 k
  obtain ⟨ih0, ih1, ih2⟩ := rre_draw.mono_l k
  unfold rre_draw.f
  repeat' first
      | (with_reducible exact ih0 _ _ _ _ _ _ _ _ _ _ _ _ _ _ _ _ _ _)
      | (with_reducible exact ih1 _ _ _ _ _ _ _ _ _ _ _ _ _ _ _ _ _ _ _ _ _ _ _ _ _ _)
      | (with_reducible exact ih2 _ _ _ _ _ _ _ _ _ _ _ _ _ _ _ _ _ _ _ _ _ _ _ _ _ _ _ _ _)
      | (with_reducible exact rre_next.mono _ _ _ _ _ _ _ _ _ _ _ _ _ _)
      | (with_reducible exact LeO.refl _)
      | (with_reducible exact LeO.none _)
      | (with_reducible refine LeO.ite ?_ ?_)
      | (with_reducible refine LeO.bind ?_ (fun _ => ?_))
      | exact ih0 _ _ _ _ _ _ _ _ _ _ _ _ _ _ _ _ _ _
      | exact ih1 _ _ _ _ _ _ _ _ _ _ _ _ _ _ _ _ _ _ _ _ _ _ _ _ _ _
      | exact ih2 _ _ _ _ _ _ _ _ _ _ _ _ _ _ _ _ _ _ _ _ _ _ _ _ _ _ _ _ _
      | exact rre_next.mono _ _ _ _ _ _ _ _ _ _ _ _ _ _
      | exact LeO.none _
      | refine LeO.ite ?_ ?_
      | refine LeO.bind ?_ (fun _ => ?_)
set_option maxHeartbeats 8000000 in
set_option maxRecDepth 100000 in
theorem rre_draw.calls (k : Nat) (g : Nat) (s0_0 : ByteArray) (s0_1 : Int) (s0_2 : Int) (a1_0 : Int) (a1_1 : Int) (a1_2 : Bool) (a1_3 : Bool) (a1_4 : Int) (a1_5 : Int) (a1_6 : Int) (a1_7 : Int) (a1_8 : Int) (a1_9 : Int) (a2 : Int) (a3 : Int) (a4 : Int) (P5_ : Nat → Prop) (u9000_ : Value) (l5 : List Int) (r1 : Int) (r2 : ByteArray) (r3 : Int) (r4 : Int) (r5 : List Int) (w0 w : World) (hI : IsS96 w0 w g s0_0 s0_1 s0_2) (hB : Below w0.heap.size w0 w) (ho5 : Kd.R (Kd.int .i64) 3 w w0.heap.size P5_ u9000_ l5) (h : rre_draw.f k s0_0 s0_1 s0_2 a1_0 a1_1 a1_2 a1_3 a1_4 a1_5 a1_6 a1_7 a1_8 a1_9 a2 a3 a4 l5 = some (r1, r2, r3, r4, r5)) :
    Calls Try.prog 43 #[.pointer (some ⟨g, 0, none⟩), .agg #[.int .i64 a1_0, .int .i64 a1_1, .bool a1_2, .bool a1_3, .int .i64 a1_4, .int .i64 a1_5, .int .i64 a1_6, .int .i64 a1_7, .int .i64 a1_8, .int .i64 a1_9], .int .i64 a2, .int .i64 a3, .int .i64 a4, u9000_] w fun e w' => e = .returned (.int .i64 r1) ∧ IsS96 w0 w' g r2 r3 r4 ∧ Kd.R (Kd.int .i64) 3 w' w0.heap.size (fun k_ => (P5_ k_ ∨ w.heap.size ≤ k_)) u9000_ r5 ∧ Below w0.heap.size w0 w' ∧ Kept w w' (fun k_ => (P5_ k_) ∨ k_ = g) := by
  have hu37 := Try.underlying37
  have hu31 := Try.underlying31
  have hu29 := Try.underlying29
  have HO5 := Aside0.mk (show Kd.R (Kd.int .i64) 3 w w0.heap.size (fun k_ => (P5_ k_ ∨ w.heap.size ≤ k_)) u9000_ l5 from Kd.R_mono ho5 (fun k_ hk => (.inl hk)))
  have HI0 := Aside0.mk hI
  have HL := Aside0.mk hB.size
  clear hI
  have HK := Aside0.mk (Kept.refl w (fun k_ => (P5_ k_) ∨ k_ = g))
  have HW0 := Aside0.mk hB.size
  have HB := Aside0.mk hB
  clear hB
  have H : (rre_draw.l0 k a2 a3 l5 a4 0 s0_0 s0_1 s0_2 a1_0 a1_1 a1_2 a1_3 a1_4 a1_5 a1_6 a1_7 a1_8 a1_9) = some (r1, r2, r3, r4, r5) := h
  clear h
  have H' := Aside0.mk H
  clear H
  go_enter Try.func43, Try.ntmps43
  go_wp2_with (first | ((with_reducible refine gate_dst (N := 7) rfl ?_); refine box_event ?hg (N := 7) ?hd (cs := #[.int .i64 a1_0, .int .i64 a1_1, .bool a1_2, .bool a1_3, .int .i64 a1_4, .int .i64 a1_5, .int .i64 a1_6, .int .i64 a1_7, .int .i64 a1_8, .int .i64 a1_9]) (t := 37) ?hr ?_; (case hd => rfl); (case hg => rfl); (case hr => first | (go_simp; done) | (go_simp; rfl)); intro gb184 hg w7 hbox hb; have n0_ := Aside0.mk (Kd.R_below (by (with_reducible repeat (first | apply Kd.R_alloc | apply Kd.R_drewN | apply Kd.R_drew)); exact HO5.out) hb); have n1_ := Aside0.mk (IsS96.below (by repeat (first | (with_reducible first | exact HI0.out | apply IsS96.alloc | apply IsS96.drewN | apply IsS96.drew | apply IsS96.set_0 | apply IsS96.set_1 | apply IsS96.set_2) | exact HI0.out)) hb); have n2_ := Aside0.mk (Kept.below (S := (fun k_ => (P5_ k_) ∨ k_ = g)) (by repeat (first | (with_reducible first | exact HK.out | apply Kept.alloc | apply Kept.drewN | apply Kept.drew | refine Kept.setCell ?_ (.inl (.inr rfl)) _) | exact HK.out)) hb); have n3_ := Aside0.mk (below_step (by repeat (first | (with_reducible first | exact HB.out | apply below_alloc | apply pw_below_drewN | apply below_drew1 | refine below_set ?_ (IsS96.ge HI0.out)) | exact HB.out)) hb); have n4_ := Aside0.mk (hbox); have n5_ := Aside0.mk ((by rw [hg]; exact (by first | exact HK.out.1 | exact (show Kept w _ (fun k_ => (P5_ k_) ∨ k_ = g) from by repeat (first | (with_reducible first | exact HK.out | apply Kept.alloc | apply Kept.drewN | apply Kept.drew | refine Kept.setCell ?_ (.inl (.inr rfl)) _) | exact HK.out)).1) : w.heap.size ≤ gb184)); have n6_ := Aside0.mk ((by rw [hg]; exact (below_size (by repeat (first | (with_reducible first | exact HB.out | apply below_alloc | apply pw_below_drewN | apply below_drew1 | refine below_set ?_ (IsS96.ge HI0.out)) | exact HB.out))) : w0.heap.size ≤ gb184)); have n7_ := Aside0.mk ((by rw [hg]; exact Nat.ne_of_lt (IsS96.lt (show IsS96 w0 _ g s0_0 s0_1 s0_2 from by repeat (first | (with_reducible first | exact HI0.out | apply IsS96.alloc | apply IsS96.drewN | apply IsS96.drew | apply IsS96.set_0 | apply IsS96.set_1 | apply IsS96.set_2) | exact HI0.out))) : g ≠ gb184)); have n8_ := Aside0.mk ((by rw [hg]; exact Nat.ne_of_gt (IsS96.lt (show IsS96 w0 _ g s0_0 s0_1 s0_2 from by repeat (first | (with_reducible first | exact HI0.out | apply IsS96.alloc | apply IsS96.drewN | apply IsS96.drew | apply IsS96.set_0 | apply IsS96.set_1 | apply IsS96.set_2) | exact HI0.out))) : gb184 ≠ g)); clear HO5; clear HI0; clear HK; clear HB; have HO5 := n0_; have HI0 := n1_; have HK := n2_; have HB := n3_; have BK184 := n4_; have GW184 := n5_; have GE184 := n6_; have NB0_184 := n7_; have NB184_0 := n8_; clear n0_ n1_ n2_ n3_ n4_ n5_ n6_ n7_ n8_; clear hb hbox hg))
  go_loopg [20] k (fun kq v20 w' => ∃ (x5_1 : List Int) (x20_1 : Int) (x1000_1 : ByteArray) (x1001_1 : Int) (x1002_1 : Int), v20 = .int .i64 x20_1 ∧ Aside0 (rre_draw.l0 kq a2 a3 x5_1 a4 x20_1 x1000_1 x1001_1 x1002_1 a1_0 a1_1 a1_2 a1_3 a1_4 a1_5 a1_6 a1_7 a1_8 a1_9 = some (r1, r2, r3, r4, r5)) ∧ Aside0 (kq ≤ k) ∧ Aside0 (Kd.R (Kd.int .i64) 3 w' w0.heap.size (fun k_ => (P5_ k_ ∨ w.heap.size ≤ k_)) u9000_ x5_1) ∧ Aside0 (w'.heap[gb184]? = some (.cells #[.int .i64 a1_0, .int .i64 a1_1, .bool a1_2, .bool a1_3, .int .i64 a1_4, .int .i64 a1_5, .int .i64 a1_6, .int .i64 a1_7, .int .i64 a1_8, .int .i64 a1_9] 37 (0, 0))) ∧ Aside0 (IsS96 w0 w' g x1000_1 x1001_1 x1002_1) ∧ Aside0 (Kept w w' (fun k_ => (P5_ k_) ∨ k_ = g)) ∧ Aside0 (Below w0.heap.size w0 w'))
  case atStart => exact ⟨(l5), (0), (s0_0), (s0_1), (s0_2), (by first | rfl | (simp; done) | (simp [*]; done)), H', ⟨Nat.le_refl _⟩, ⟨by (with_reducible repeat (first | apply Kd.R_alloc | apply Kd.R_drewN | apply Kd.R_drew)); exact HO5.out⟩, ⟨by (with_reducible repeat (first | refine blk_drewN ?_ _ | refine blk_drew ?_ | refine blk_alloc ?_ _)); exact BK184.out⟩, ⟨by repeat (first | (with_reducible first | exact HI0.out | apply IsS96.alloc | apply IsS96.drewN | apply IsS96.drew | apply IsS96.set_0 | apply IsS96.set_1 | apply IsS96.set_2 | refine IsS96.far ?_ NB0_184.out _) | exact HI0.out)⟩, ⟨by repeat (first | (with_reducible first | exact HK.out | apply Kept.alloc | apply Kept.drewN | apply Kept.drew | refine Kept.setCell ?_ (.inl (.inr rfl)) _ | refine Kept.setCell ?_ (.inr GW184.out) _) | exact HK.out)⟩, ⟨by repeat (first | (with_reducible first | exact HB.out | apply below_alloc | apply pw_below_drewN | apply below_drew1 | refine below_set ?_ (IsS96.ge HI0.out) | refine below_set ?_ GE184.out) | exact HB.out)⟩⟩
  case round =>
    clear H'
    try clear p2
    try clear c4
    obtain ⟨x5_1, x20_1, x1000_1, x1001_1, x1002_1, rfl, HA, HK1, HO_5, BK184, HI0, HK, HB⟩ := hrel
    cases gk with
    | zero => exact absurd HA.out (by simp [rre_draw.l0])
    | succ k1 =>
      have H := HA.out
      clear HA
      simp only [rre_draw.l0] at H
      by_cases c8 : x20_1 < a4
      · rw [if_pos c8] at H
        have c8b0 : decide (x20_1 < a4) = true := decide_eq_true c8
        clear c8
        replace H := Option.bind_eq_some_iff.mp H
        obtain ⟨⟨t185, t186, t187, t188, t189, t190, t191, t192, t193⟩, A90, H⟩ := H
        replace H : (if t190 = 0 then ((screen_Inside.f t186 t187 t188 t189 a2 a3).bind fun t195 => (if t195 = true then ((format_Colour.f a1_0 a1_1 a1_2 a1_3 a1_4 a1_5 a1_6 a1_7 a1_8 a1_9 t185).bind fun t196 => (rre_draw.l1 k1 a2 a3 x5_1 t196 a4 x20_1 t189 0 t191 t192 t193 a1_0 a1_1 a1_2 a1_3 a1_4 a1_5 a1_6 a1_7 a1_8 a1_9 t185 t186 t187 t188 t189)) else (some (140, t191, t192, t193, x5_1)))) else (some (t190, t191, t192, t193, x5_1))) = some (r1, r2, r3, r4, r5) := H
        have A9 := Aside0.mk A90
        clear A90
        by_cases c10 : t190 = 0
        · rw [if_pos c10] at H
          have c10b0 : (t190 == 0) = true := beq_iff_eq.mpr c10
          have c10b1 : (t190 != 0) = false := bne_eq_false_iff_eq.mpr c10
          clear c10
          replace H := Option.bind_eq_some_iff.mp H
          obtain ⟨t195, A110, H⟩ := H
          replace H : (if t195 = true then ((format_Colour.f a1_0 a1_1 a1_2 a1_3 a1_4 a1_5 a1_6 a1_7 a1_8 a1_9 t185).bind fun t196 => (rre_draw.l1 k1 a2 a3 x5_1 t196 a4 x20_1 t189 0 t191 t192 t193 a1_0 a1_1 a1_2 a1_3 a1_4 a1_5 a1_6 a1_7 a1_8 a1_9 t185 t186 t187 t188 t189)) else (some (140, t191, t192, t193, x5_1))) = some (r1, r2, r3, r4, r5) := H
          have A11 := Aside0.mk A110
          clear A110
          by_cases c12 : t195 = true
          · subst c12
            have H1 : ((format_Colour.f a1_0 a1_1 a1_2 a1_3 a1_4 a1_5 a1_6 a1_7 a1_8 a1_9 t185).bind fun t196 => (rre_draw.l1 k1 a2 a3 x5_1 t196 a4 x20_1 t189 0 t191 t192 t193 a1_0 a1_1 a1_2 a1_3 a1_4 a1_5 a1_6 a1_7 a1_8 a1_9 t185 t186 t187 t188 t189)) = some (r1, r2, r3, r4, r5) := by rw [if_pos rfl] at H; exact H
            clear H
            have H := H1
            clear H1
            replace H := Option.bind_eq_some_iff.mp H
            obtain ⟨t196, A130, H⟩ := H
            replace H : (rre_draw.l1 k1 a2 a3 x5_1 t196 a4 x20_1 t189 0 t191 t192 t193 a1_0 a1_1 a1_2 a1_3 a1_4 a1_5 a1_6 a1_7 a1_8 a1_9 t185 t186 t187 t188 t189) = some (r1, r2, r3, r4, r5) := H
            have A13 := Aside0.mk A130
            clear A130
            have H' := Aside0.mk H
            clear H
            have hnb14 := NB184_0.out
            have hnc14 := NB0_184.out
            have hcz15_0 : wr.cell? ⟨gb184, 0, none⟩ = some (.int .i64 a1_0) := (blk_cell BK184.out 0).trans rfl
            have hcz15_1 : wr.cell? ⟨gb184, 1, none⟩ = some (.int .i64 a1_1) := (blk_cell BK184.out 1).trans rfl
            have hcz15_2 : wr.cell? ⟨gb184, 2, none⟩ = some (.bool a1_2) := (blk_cell BK184.out 2).trans rfl
            have hcz15_3 : wr.cell? ⟨gb184, 3, none⟩ = some (.bool a1_3) := (blk_cell BK184.out 3).trans rfl
            have hcz15_4 : wr.cell? ⟨gb184, 4, none⟩ = some (.int .i64 a1_4) := (blk_cell BK184.out 4).trans rfl
            have hcz15_5 : wr.cell? ⟨gb184, 5, none⟩ = some (.int .i64 a1_5) := (blk_cell BK184.out 5).trans rfl
            have hcz15_6 : wr.cell? ⟨gb184, 6, none⟩ = some (.int .i64 a1_6) := (blk_cell BK184.out 6).trans rfl
            have hcz15_7 : wr.cell? ⟨gb184, 7, none⟩ = some (.int .i64 a1_7) := (blk_cell BK184.out 7).trans rfl
            have hcz15_8 : wr.cell? ⟨gb184, 8, none⟩ = some (.int .i64 a1_8) := (blk_cell BK184.out 8).trans rfl
            have hcz15_9 : wr.cell? ⟨gb184, 9, none⟩ = some (.int .i64 a1_9) := (blk_cell BK184.out 9).trans rfl
            have hfz15_0 := blk_frozen BK184.out 0
            have hfz15_1 := blk_frozen BK184.out 1
            have hfz15_2 := blk_frozen BK184.out 2
            have hfz15_3 := blk_frozen BK184.out 3
            have hfz15_4 := blk_frozen BK184.out 4
            have hfz15_5 := blk_frozen BK184.out 5
            have hfz15_6 := blk_frozen BK184.out 6
            have hfz15_7 := blk_frozen BK184.out 7
            have hfz15_8 := blk_frozen BK184.out 8
            have hfz15_9 := blk_frozen BK184.out 9
            go_wp2_with (first | ((with_reducible refine gate_callee (f := 68) rfl ?_); refine goesL_ (some 25) rfl rfl Try.func68 (by kernel_rfl) rfl #[.pointer (some ⟨g, 0, none⟩), .agg #[.int .i64 a1_0, .int .i64 a1_1, .bool a1_2, .bool a1_3, .int .i64 a1_4, .int .i64 a1_5, .int .i64 a1_6, .int .i64 a1_7, .int .i64 a1_8, .int .i64 a1_9]] rfl (by (try simp only [List.map_toArray, List.map_cons, List.map_nil]); first | done | rfl | (simp only [List.length_drop, List.length_take]; rfl)) ?_; (with_reducible refine (rre_next.calls k1 g x1000_1 x1001_1 x1002_1 a1_0 a1_1 a1_2 a1_3 a1_4 a1_5 a1_6 a1_7 a1_8 a1_9 t185 t186 t187 t188 t189 t190 t191 t192 t193 w0 _ ?side1 ?side2 A9.out).mono ?_); (case side1 => repeat (first | (with_reducible first | exact HI0.out | apply IsS96.alloc | apply IsS96.drewN | apply IsS96.drew | apply IsS96.set_0 | apply IsS96.set_1 | apply IsS96.set_2 | refine IsS96.far ?_ NB0_184.out _) | exact HI0.out)); (case side2 => repeat (first | (with_reducible first | exact HB.out | apply below_alloc | apply pw_below_drewN | apply below_drew1 | refine below_set ?_ (IsS96.ge HI0.out) | refine below_set ?_ GE184.out) | exact HB.out)); rintro e w16 ⟨rfl, hi, hb, hk⟩; refine ⟨_, rfl, ?_⟩; have n0_ := Aside0.mk (Kd.R_mono (Kd.R_keep (IsS96.apart (show IsS96 w0 _ g x1000_1 x1001_1 x1002_1 from by repeat (first | (with_reducible first | exact HI0.out | apply IsS96.alloc | apply IsS96.drewN | apply IsS96.drew | apply IsS96.set_0 | apply IsS96.set_1 | apply IsS96.set_2 | refine IsS96.far ?_ NB0_184.out _) | exact HI0.out)) (by (with_reducible repeat (first | apply Kd.R_alloc | apply Kd.R_drewN | apply Kd.R_drew)); exact HO_5.out) (by decide)) hk (fun _ h => h.2)) (fun _ h => h.1)); have n1_ := Aside0.mk (KeepBut.blk hk (g' := gb184) (o := .cells #[.int .i64 a1_0, .int .i64 a1_1, .bool a1_2, .bool a1_3, .int .i64 a1_4, .int .i64 a1_5, .int .i64 a1_6, .int .i64 a1_7, .int .i64 a1_8, .int .i64 a1_9] 37 (0, 0)) (by (with_reducible repeat (first | refine blk_drewN ?_ _ | refine blk_drew ?_ | refine blk_alloc ?_ _)); exact BK184.out) NB184_0.out (by simp)); have n2_ := Aside0.mk (Kept.of_keep (S := (fun k_ => (P5_ k_) ∨ k_ = g)) (by repeat (first | (with_reducible first | exact HK.out | apply Kept.alloc | apply Kept.drewN | apply Kept.drew | refine Kept.setCell ?_ (.inl (.inr rfl)) _ | refine Kept.setCell ?_ (.inr GW184.out) _) | exact HK.out)) hk (.inl (.inr rfl))); have n3_ := Aside0.mk (hb); have n4_ := Aside0.mk (hi); clear HO_5; clear BK184; clear HK; clear HB; clear HI0; have HO_5 := n0_; have BK184 := n1_; have HK := n2_; have HB := n3_; have HI0 := n4_; clear n0_ n1_ n2_ n3_ n4_; (try clear hb); (try clear hb2); (try clear hk); (try clear hi)) | ((with_reducible refine gate_dst (N := 13) rfl ?_); refine box_event ?hg (N := 13) ?hd (cs := #[.int .i64 0, .int .i64 0, .int .i64 0, .int .i64 0, .int .i64 0]) (t := 31) ?hr ?_; (case hd => rfl); (case hg => rfl); (case hr => first | (go_simp; done) | (go_simp; rfl)); intro gb194 hg w17 hbox hb; have n0_ := Aside0.mk (Kd.R_below (by (with_reducible repeat (first | apply Kd.R_alloc | apply Kd.R_drewN | apply Kd.R_drew)); exact HO_5.out) hb); have n1_ := Aside0.mk (blk_below (g := gb184) (o := .cells #[.int .i64 a1_0, .int .i64 a1_1, .bool a1_2, .bool a1_3, .int .i64 a1_4, .int .i64 a1_5, .int .i64 a1_6, .int .i64 a1_7, .int .i64 a1_8, .int .i64 a1_9] 37 (0, 0)) (by (with_reducible repeat (first | refine blk_drewN ?_ _ | refine blk_drew ?_ | refine blk_alloc ?_ _)); exact BK184.out) hb); have n2_ := Aside0.mk (IsS96.below (by repeat (first | (with_reducible first | exact HI0.out | apply IsS96.alloc | apply IsS96.drewN | apply IsS96.drew | apply IsS96.set_0 | apply IsS96.set_1 | apply IsS96.set_2 | refine IsS96.far ?_ NB0_184.out _) | exact HI0.out)) hb); have n3_ := Aside0.mk (Kept.below (S := (fun k_ => (P5_ k_) ∨ k_ = g)) (by repeat (first | (with_reducible first | exact HK.out | apply Kept.alloc | apply Kept.drewN | apply Kept.drew | refine Kept.setCell ?_ (.inl (.inr rfl)) _ | refine Kept.setCell ?_ (.inr GW184.out) _) | exact HK.out)) hb); have n4_ := Aside0.mk (below_step (by repeat (first | (with_reducible first | exact HB.out | apply below_alloc | apply pw_below_drewN | apply below_drew1 | refine below_set ?_ (IsS96.ge HI0.out) | refine below_set ?_ GE184.out) | exact HB.out)) hb); have n5_ := Aside0.mk (hbox); have n6_ := Aside0.mk ((by rw [hg]; exact (by first | exact HK.out.1 | exact (show Kept w _ (fun k_ => (P5_ k_) ∨ k_ = g) from by repeat (first | (with_reducible first | exact HK.out | apply Kept.alloc | apply Kept.drewN | apply Kept.drew | refine Kept.setCell ?_ (.inl (.inr rfl)) _ | refine Kept.setCell ?_ (.inr GW184.out) _) | exact HK.out)).1) : w.heap.size ≤ gb194)); have n7_ := Aside0.mk ((by rw [hg]; exact (below_size (by repeat (first | (with_reducible first | exact HB.out | apply below_alloc | apply pw_below_drewN | apply below_drew1 | refine below_set ?_ (IsS96.ge HI0.out) | refine below_set ?_ GE184.out) | exact HB.out))) : w0.heap.size ≤ gb194)); have n8_ := Aside0.mk ((by rw [hg]; exact Nat.ne_of_lt (blk_lt (g := gb184) (o := .cells #[.int .i64 a1_0, .int .i64 a1_1, .bool a1_2, .bool a1_3, .int .i64 a1_4, .int .i64 a1_5, .int .i64 a1_6, .int .i64 a1_7, .int .i64 a1_8, .int .i64 a1_9] 37 (0, 0)) (by (with_reducible repeat (first | refine blk_drewN ?_ _ | refine blk_drew ?_ | refine blk_alloc ?_ _)); exact BK184.out)) : gb184 ≠ gb194)); have n9_ := Aside0.mk ((by rw [hg]; exact Nat.ne_of_gt (blk_lt (g := gb184) (o := .cells #[.int .i64 a1_0, .int .i64 a1_1, .bool a1_2, .bool a1_3, .int .i64 a1_4, .int .i64 a1_5, .int .i64 a1_6, .int .i64 a1_7, .int .i64 a1_8, .int .i64 a1_9] 37 (0, 0)) (by (with_reducible repeat (first | refine blk_drewN ?_ _ | refine blk_drew ?_ | refine blk_alloc ?_ _)); exact BK184.out)) : gb194 ≠ gb184)); have n10_ := Aside0.mk ((by rw [hg]; exact Nat.ne_of_lt (IsS96.lt (show IsS96 w0 _ g t191 t192 t193 from by repeat (first | (with_reducible first | exact HI0.out | apply IsS96.alloc | apply IsS96.drewN | apply IsS96.drew | apply IsS96.set_0 | apply IsS96.set_1 | apply IsS96.set_2 | refine IsS96.far ?_ NB0_184.out _) | exact HI0.out))) : g ≠ gb194)); have n11_ := Aside0.mk ((by rw [hg]; exact Nat.ne_of_gt (IsS96.lt (show IsS96 w0 _ g t191 t192 t193 from by repeat (first | (with_reducible first | exact HI0.out | apply IsS96.alloc | apply IsS96.drewN | apply IsS96.drew | apply IsS96.set_0 | apply IsS96.set_1 | apply IsS96.set_2 | refine IsS96.far ?_ NB0_184.out _) | exact HI0.out))) : gb194 ≠ g)); clear HO_5; clear BK184; clear HI0; clear HK; clear HB; have HO_5 := n0_; have BK184 := n1_; have HI0 := n2_; have HK := n3_; have HB := n4_; have BK194 := n5_; have GW194 := n6_; have GE194 := n7_; have NB184_194 := n8_; have NB194_184 := n9_; have NB0_194 := n10_; have NB194_0 := n11_; clear n0_ n1_ n2_ n3_ n4_ n5_ n6_ n7_ n8_ n9_ n10_ n11_; clear hb hbox hg; have hnb18 := NB194_184.out; have hnc18 := NB184_194.out; have hnb19 := NB194_0.out; have hnc19 := NB0_194.out; have hcz20_0 : w17.cell? ⟨gb194, 0, none⟩ = some (.int .i64 0) := (blk_cell BK194.out 0).trans rfl; have hcz20_1 : w17.cell? ⟨gb194, 1, none⟩ = some (.int .i64 0) := (blk_cell BK194.out 1).trans rfl; have hcz20_2 : w17.cell? ⟨gb194, 2, none⟩ = some (.int .i64 0) := (blk_cell BK194.out 2).trans rfl; have hcz20_3 : w17.cell? ⟨gb194, 3, none⟩ = some (.int .i64 0) := (blk_cell BK194.out 3).trans rfl; have hcz20_4 : w17.cell? ⟨gb194, 4, none⟩ = some (.int .i64 0) := (blk_cell BK194.out 4).trans rfl; have hfz20_0 := blk_frozen BK194.out 0; have hfz20_1 := blk_frozen BK194.out 1; have hfz20_2 := blk_frozen BK194.out 2; have hfz20_3 := blk_frozen BK194.out 3; have hfz20_4 := blk_frozen BK194.out 4) | ((with_reducible refine gate_callee (f := 69) rfl ?_); refine goesL_ (some 37) rfl rfl Try.func69 (by kernel_rfl) rfl #[.agg #[.int .i64 t186, .int .i64 t187, .int .i64 t188, .int .i64 t189], .int .i64 a2, .int .i64 a3] rfl (by (try simp only [List.map_toArray, List.map_cons, List.map_nil]); first | done | rfl | (simp only [List.length_drop, List.length_take]; rfl)) ?_; (with_reducible refine (screen_Inside.calls t186 t187 t188 t189 a2 a3 true _ A11.out).mono ?_); rintro e w21 ⟨rfl, hb⟩; refine ⟨_, rfl, ?_⟩; have n0_ := Aside0.mk (Kd.R_below (by (with_reducible repeat (first | apply Kd.R_alloc | apply Kd.R_drewN | apply Kd.R_drew)); exact (Kd.R_mono (Kd.R_far (p := ⟨gb194, 4, none⟩) (Kd.R_far (p := ⟨gb194, 3, none⟩) (Kd.R_far (p := ⟨gb194, 2, none⟩) (Kd.R_far (p := ⟨gb194, 1, none⟩) (Kd.R_far (p := ⟨gb194, 0, none⟩) (Kd.R_types HO_5.out BK194.out (by decide)) (fun _ hk => hk.2) (.int .i64 t185)) (fun _ hk => hk.2) (.int .i64 t186)) (fun _ hk => hk.2) (.int .i64 t187)) (fun _ hk => hk.2) (.int .i64 t188)) (fun _ hk => hk.2) (.int .i64 t189)) (fun _ h_ => h_.1))) hb); have n1_ := Aside0.mk (blk_below (g := gb184) (o := .cells #[.int .i64 a1_0, .int .i64 a1_1, .bool a1_2, .bool a1_3, .int .i64 a1_4, .int .i64 a1_5, .int .i64 a1_6, .int .i64 a1_7, .int .i64 a1_8, .int .i64 a1_9] 37 (0, 0)) (by (with_reducible repeat (first | refine blk_drewN ?_ _ | refine blk_drew ?_ | refine blk_alloc ?_ _)); refine blk_far ?_ NB184_194.out _; (with_reducible repeat (first | refine blk_drewN ?_ _ | refine blk_drew ?_ | refine blk_alloc ?_ _)); refine blk_far ?_ NB184_194.out _; (with_reducible repeat (first | refine blk_drewN ?_ _ | refine blk_drew ?_ | refine blk_alloc ?_ _)); refine blk_far ?_ NB184_194.out _; (with_reducible repeat (first | refine blk_drewN ?_ _ | refine blk_drew ?_ | refine blk_alloc ?_ _)); refine blk_far ?_ NB184_194.out _; (with_reducible repeat (first | refine blk_drewN ?_ _ | refine blk_drew ?_ | refine blk_alloc ?_ _)); refine blk_far ?_ NB184_194.out _; (with_reducible repeat (first | refine blk_drewN ?_ _ | refine blk_drew ?_ | refine blk_alloc ?_ _)); exact BK184.out) hb); have n2_ := Aside0.mk (IsS96.below (show IsS96 w0 (((((w17.setCell ⟨gb194, 0, none⟩ (.int .i64 t185)).setCell ⟨gb194, 1, none⟩ (.int .i64 t186)).setCell ⟨gb194, 2, none⟩ (.int .i64 t187)).setCell ⟨gb194, 3, none⟩ (.int .i64 t188)).setCell ⟨gb194, 4, none⟩ (.int .i64 t189)) g t191 t192 t193 from by repeat (first | (with_reducible first | exact HI0.out | apply IsS96.alloc | apply IsS96.drewN | apply IsS96.drew | apply IsS96.set_0 | apply IsS96.set_1 | apply IsS96.set_2 | refine IsS96.far ?_ NB0_184.out _ | refine IsS96.far ?_ NB0_194.out _) | exact HI0.out)) hb); have n3_ := Aside0.mk (blk_below (g := gb194) (o := .cells #[.int .i64 t185, .int .i64 t186, .int .i64 t187, .int .i64 t188, .int .i64 t189] 31 (0, 0)) (by (with_reducible repeat (first | refine blk_drewN ?_ _ | refine blk_drew ?_ | refine blk_alloc ?_ _)); refine blk_put (cs := #[.int .i64 t185, .int .i64 t186, .int .i64 t187, .int .i64 t188, .int .i64 0]) ?_ 4 _ rfl; (with_reducible repeat (first | refine blk_drewN ?_ _ | refine blk_drew ?_ | refine blk_alloc ?_ _)); refine blk_put (cs := #[.int .i64 t185, .int .i64 t186, .int .i64 t187, .int .i64 0, .int .i64 0]) ?_ 3 _ rfl; (with_reducible repeat (first | refine blk_drewN ?_ _ | refine blk_drew ?_ | refine blk_alloc ?_ _)); refine blk_put (cs := #[.int .i64 t185, .int .i64 t186, .int .i64 0, .int .i64 0, .int .i64 0]) ?_ 2 _ rfl; (with_reducible repeat (first | refine blk_drewN ?_ _ | refine blk_drew ?_ | refine blk_alloc ?_ _)); refine blk_put (cs := #[.int .i64 t185, .int .i64 0, .int .i64 0, .int .i64 0, .int .i64 0]) ?_ 1 _ rfl; (with_reducible repeat (first | refine blk_drewN ?_ _ | refine blk_drew ?_ | refine blk_alloc ?_ _)); refine blk_put (cs := #[.int .i64 0, .int .i64 0, .int .i64 0, .int .i64 0, .int .i64 0]) ?_ 0 _ rfl; (with_reducible repeat (first | refine blk_drewN ?_ _ | refine blk_drew ?_ | refine blk_alloc ?_ _)); exact BK194.out) hb); have n4_ := Aside0.mk (Kept.below (S := (fun k_ => (P5_ k_) ∨ k_ = g)) (by repeat (first | (with_reducible first | exact HK.out | apply Kept.alloc | apply Kept.drewN | apply Kept.drew | refine Kept.setCell ?_ (.inl (.inr rfl)) _ | refine Kept.setCell ?_ (.inr GW184.out) _ | refine Kept.setCell ?_ (.inr GW194.out) _) | exact HK.out)) hb); have n5_ := Aside0.mk (below_step (by repeat (first | (with_reducible first | exact HB.out | apply below_alloc | apply pw_below_drewN | apply below_drew1 | refine below_set ?_ (IsS96.ge HI0.out) | refine below_set ?_ GE184.out | refine below_set ?_ GE194.out) | exact HB.out)) hb); clear HO_5; clear BK184; clear HI0; clear BK194; clear HK; clear HB; have HO_5 := n0_; have BK184 := n1_; have HI0 := n2_; have BK194 := n3_; have HK := n4_; have HB := n5_; clear n0_ n1_ n2_ n3_ n4_ n5_; (try clear hb); (try clear hb2); (try clear hk); (try clear hi); have hcz22_0 : w21.cell? ⟨gb184, 0, none⟩ = some (.int .i64 a1_0) := (blk_cell BK184.out 0).trans rfl; have hcz22_1 : w21.cell? ⟨gb184, 1, none⟩ = some (.int .i64 a1_1) := (blk_cell BK184.out 1).trans rfl; have hcz22_2 : w21.cell? ⟨gb184, 2, none⟩ = some (.bool a1_2) := (blk_cell BK184.out 2).trans rfl; have hcz22_3 : w21.cell? ⟨gb184, 3, none⟩ = some (.bool a1_3) := (blk_cell BK184.out 3).trans rfl; have hcz22_4 : w21.cell? ⟨gb184, 4, none⟩ = some (.int .i64 a1_4) := (blk_cell BK184.out 4).trans rfl; have hcz22_5 : w21.cell? ⟨gb184, 5, none⟩ = some (.int .i64 a1_5) := (blk_cell BK184.out 5).trans rfl; have hcz22_6 : w21.cell? ⟨gb184, 6, none⟩ = some (.int .i64 a1_6) := (blk_cell BK184.out 6).trans rfl; have hcz22_7 : w21.cell? ⟨gb184, 7, none⟩ = some (.int .i64 a1_7) := (blk_cell BK184.out 7).trans rfl; have hcz22_8 : w21.cell? ⟨gb184, 8, none⟩ = some (.int .i64 a1_8) := (blk_cell BK184.out 8).trans rfl; have hcz22_9 : w21.cell? ⟨gb184, 9, none⟩ = some (.int .i64 a1_9) := (blk_cell BK184.out 9).trans rfl; have hfz22_0 := blk_frozen BK184.out 0; have hfz22_1 := blk_frozen BK184.out 1; have hfz22_2 := blk_frozen BK184.out 2; have hfz22_3 := blk_frozen BK184.out 3; have hfz22_4 := blk_frozen BK184.out 4; have hfz22_5 := blk_frozen BK184.out 5; have hfz22_6 := blk_frozen BK184.out 6; have hfz22_7 := blk_frozen BK184.out 7; have hfz22_8 := blk_frozen BK184.out 8; have hfz22_9 := blk_frozen BK184.out 9; have hcz23_0 : w21.cell? ⟨gb194, 0, none⟩ = some (.int .i64 t185) := (blk_cell BK194.out 0).trans rfl; have hcz23_1 : w21.cell? ⟨gb194, 1, none⟩ = some (.int .i64 t186) := (blk_cell BK194.out 1).trans rfl; have hcz23_2 : w21.cell? ⟨gb194, 2, none⟩ = some (.int .i64 t187) := (blk_cell BK194.out 2).trans rfl; have hcz23_3 : w21.cell? ⟨gb194, 3, none⟩ = some (.int .i64 t188) := (blk_cell BK194.out 3).trans rfl; have hcz23_4 : w21.cell? ⟨gb194, 4, none⟩ = some (.int .i64 t189) := (blk_cell BK194.out 4).trans rfl; have hfz23_0 := blk_frozen BK194.out 0; have hfz23_1 := blk_frozen BK194.out 1; have hfz23_2 := blk_frozen BK194.out 2; have hfz23_3 := blk_frozen BK194.out 3; have hfz23_4 := blk_frozen BK194.out 4) | ((with_reducible refine gate_callee (f := 42) rfl ?_); refine goesL_ (some 42) rfl rfl Try.func42 (by kernel_rfl) rfl #[.agg #[.int .i64 a1_0, .int .i64 a1_1, .bool a1_2, .bool a1_3, .int .i64 a1_4, .int .i64 a1_5, .int .i64 a1_6, .int .i64 a1_7, .int .i64 a1_8, .int .i64 a1_9], .int .i64 t185] rfl (by (try simp only [List.map_toArray, List.map_cons, List.map_nil]); first | done | rfl | (simp only [List.length_drop, List.length_take]; rfl)) ?_; (with_reducible refine (format_Colour.calls a1_0 a1_1 a1_2 a1_3 a1_4 a1_5 a1_6 a1_7 a1_8 a1_9 t185 t196 _ A13.out).mono ?_); rintro e w24 ⟨rfl, hb⟩; refine ⟨_, rfl, ?_⟩; have n0_ := Aside0.mk (Kd.R_below (by (with_reducible repeat (first | apply Kd.R_alloc | apply Kd.R_drewN | apply Kd.R_drew)); exact HO_5.out) hb); have n1_ := Aside0.mk (blk_below (g := gb184) (o := .cells #[.int .i64 a1_0, .int .i64 a1_1, .bool a1_2, .bool a1_3, .int .i64 a1_4, .int .i64 a1_5, .int .i64 a1_6, .int .i64 a1_7, .int .i64 a1_8, .int .i64 a1_9] 37 (0, 0)) (by (with_reducible repeat (first | refine blk_drewN ?_ _ | refine blk_drew ?_ | refine blk_alloc ?_ _)); exact BK184.out) hb); have n2_ := Aside0.mk (IsS96.below (by repeat (first | (with_reducible first | exact HI0.out | apply IsS96.alloc | apply IsS96.drewN | apply IsS96.drew | apply IsS96.set_0 | apply IsS96.set_1 | apply IsS96.set_2 | refine IsS96.far ?_ NB0_184.out _ | refine IsS96.far ?_ NB0_194.out _) | exact HI0.out)) hb); have n3_ := Aside0.mk (blk_below (g := gb194) (o := .cells #[.int .i64 t185, .int .i64 t186, .int .i64 t187, .int .i64 t188, .int .i64 t189] 31 (0, 0)) (by (with_reducible repeat (first | refine blk_drewN ?_ _ | refine blk_drew ?_ | refine blk_alloc ?_ _)); exact BK194.out) hb); have n4_ := Aside0.mk (Kept.below (S := (fun k_ => (P5_ k_) ∨ k_ = g)) (by repeat (first | (with_reducible first | exact HK.out | apply Kept.alloc | apply Kept.drewN | apply Kept.drew | refine Kept.setCell ?_ (.inl (.inr rfl)) _ | refine Kept.setCell ?_ (.inr GW184.out) _ | refine Kept.setCell ?_ (.inr GW194.out) _) | exact HK.out)) hb); have n5_ := Aside0.mk (below_step (by repeat (first | (with_reducible first | exact HB.out | apply below_alloc | apply pw_below_drewN | apply below_drew1 | refine below_set ?_ (IsS96.ge HI0.out) | refine below_set ?_ GE184.out | refine below_set ?_ GE194.out) | exact HB.out)) hb); clear HO_5; clear BK184; clear HI0; clear BK194; clear HK; clear HB; have HO_5 := n0_; have BK184 := n1_; have HI0 := n2_; have BK194 := n3_; have HK := n4_; have HB := n5_; clear n0_ n1_ n2_ n3_ n4_ n5_; (try clear hb); (try clear hb2); (try clear hk); (try clear hi); have hcz25_0 : w24.cell? ⟨gb194, 0, none⟩ = some (.int .i64 t185) := (blk_cell BK194.out 0).trans rfl; have hcz25_1 : w24.cell? ⟨gb194, 1, none⟩ = some (.int .i64 t186) := (blk_cell BK194.out 1).trans rfl; have hcz25_2 : w24.cell? ⟨gb194, 2, none⟩ = some (.int .i64 t187) := (blk_cell BK194.out 2).trans rfl; have hcz25_3 : w24.cell? ⟨gb194, 3, none⟩ = some (.int .i64 t188) := (blk_cell BK194.out 3).trans rfl; have hcz25_4 : w24.cell? ⟨gb194, 4, none⟩ = some (.int .i64 t189) := (blk_cell BK194.out 4).trans rfl; have hfz25_0 := blk_frozen BK194.out 0; have hfz25_1 := blk_frozen BK194.out 1; have hfz25_2 := blk_frozen BK194.out 2; have hfz25_3 := blk_frozen BK194.out 3; have hfz25_4 := blk_frozen BK194.out 4))
            go_loopg [46] k1 (fun kq v46 w' => ∃ (x5_2 : List Int) (x46_2 : Int), v46 = .int .i64 x46_2 ∧ Aside0 (rre_draw.l1 kq a2 a3 x5_2 t196 a4 x20_1 t189 x46_2 t191 t192 t193 a1_0 a1_1 a1_2 a1_3 a1_4 a1_5 a1_6 a1_7 a1_8 a1_9 t185 t186 t187 t188 t189 = some (r1, r2, r3, r4, r5)) ∧ Aside0 (kq ≤ k1) ∧ Aside0 (Kd.R (Kd.int .i64) 3 w' w0.heap.size (fun k_ => (P5_ k_ ∨ w.heap.size ≤ k_)) u9000_ x5_2) ∧ Aside0 (w'.heap[gb184]? = some (.cells #[.int .i64 a1_0, .int .i64 a1_1, .bool a1_2, .bool a1_3, .int .i64 a1_4, .int .i64 a1_5, .int .i64 a1_6, .int .i64 a1_7, .int .i64 a1_8, .int .i64 a1_9] 37 (0, 0))) ∧ Aside0 (w'.heap[gb194]? = some (.cells #[.int .i64 t185, .int .i64 t186, .int .i64 t187, .int .i64 t188, .int .i64 t189] 31 (0, 0))) ∧ Aside0 (IsS96 w0 w' g t191 t192 t193) ∧ Aside0 (Kept w w' (fun k_ => (P5_ k_) ∨ k_ = g)) ∧ Aside0 (Below w0.heap.size w0 w'))
            case atStart => exact ⟨(x5_1), (0), (by first | rfl | (simp; done) | (simp [*]; done)), H', ⟨Nat.le_refl _⟩, ⟨by (with_reducible repeat (first | apply Kd.R_alloc | apply Kd.R_drewN | apply Kd.R_drew)); exact HO_5.out⟩, ⟨by (with_reducible repeat (first | refine blk_drewN ?_ _ | refine blk_drew ?_ | refine blk_alloc ?_ _)); exact BK184.out⟩, ⟨by (with_reducible repeat (first | refine blk_drewN ?_ _ | refine blk_drew ?_ | refine blk_alloc ?_ _)); exact BK194.out⟩, ⟨by repeat (first | (with_reducible first | exact HI0.out | apply IsS96.alloc | apply IsS96.drewN | apply IsS96.drew | apply IsS96.set_0 | apply IsS96.set_1 | apply IsS96.set_2 | refine IsS96.far ?_ NB0_184.out _ | refine IsS96.far ?_ NB0_194.out _) | exact HI0.out)⟩, ⟨by repeat (first | (with_reducible first | exact HK.out | apply Kept.alloc | apply Kept.drewN | apply Kept.drew | refine Kept.setCell ?_ (.inl (.inr rfl)) _ | refine Kept.setCell ?_ (.inr GW184.out) _ | refine Kept.setCell ?_ (.inr GW194.out) _) | exact HK.out)⟩, ⟨by repeat (first | (with_reducible first | exact HB.out | apply below_alloc | apply pw_below_drewN | apply below_drew1 | refine below_set ?_ (IsS96.ge HI0.out) | refine below_set ?_ GE184.out | refine below_set ?_ GE194.out) | exact HB.out)⟩⟩
            case round =>
              clear H'
              try clear c1
              try clear p2
              try clear c4
              try clear c6
              try clear c8
              try clear c8b0
              try clear c10
              try clear c10b0
              try clear c10b1
              try clear c12
              try clear c14
              try clear c18
              try clear c19
              try clear hcz15_0
              try clear hcz15_1
              try clear hcz15_2
              try clear hcz15_3
              try clear hcz15_4
              try clear hcz15_5
              try clear hcz15_6
              try clear hcz15_7
              try clear hcz15_8
              try clear hcz15_9
              try clear hcz20_0
              try clear hcz20_1
              try clear hcz20_2
              try clear hcz20_3
              try clear hcz20_4
              try clear hcz22_0
              try clear hcz22_1
              try clear hcz22_2
              try clear hcz22_3
              try clear hcz22_4
              try clear hcz22_5
              try clear hcz22_6
              try clear hcz22_7
              try clear hcz22_8
              try clear hcz22_9
              try clear hcz23_0
              try clear hcz23_1
              try clear hcz23_2
              try clear hcz23_3
              try clear hcz23_4
              try clear hcz25_0
              try clear hcz25_1
              try clear hcz25_2
              try clear hcz25_3
              try clear hcz25_4
              try clear hfz15_0
              try clear hfz15_1
              try clear hfz15_2
              try clear hfz15_3
              try clear hfz15_4
              try clear hfz15_5
              try clear hfz15_6
              try clear hfz15_7
              try clear hfz15_8
              try clear hfz15_9
              try clear hfz20_0
              try clear hfz20_1
              try clear hfz20_2
              try clear hfz20_3
              try clear hfz20_4
              try clear hfz22_0
              try clear hfz22_1
              try clear hfz22_2
              try clear hfz22_3
              try clear hfz22_4
              try clear hfz22_5
              try clear hfz22_6
              try clear hfz22_7
              try clear hfz22_8
              try clear hfz22_9
              try clear hfz23_0
              try clear hfz23_1
              try clear hfz23_2
              try clear hfz23_3
              try clear hfz23_4
              try clear hfz25_0
              try clear hfz25_1
              try clear hfz25_2
              try clear hfz25_3
              try clear hfz25_4
              try clear p2
              obtain ⟨x5_2, x46_2, rfl, HA, HK2, HO_5, BK184, BK194, HI0, HK, HB⟩ := hrel
              cases gk with
              | zero => exact absurd HA.out (by simp [rre_draw.l1])
              | succ k2 =>
                have H := HA.out
                clear HA
                simp only [rre_draw.l1] at H
                by_cases c26 : x46_2 < t189
                · rw [if_pos c26] at H
                  have c26b0 : decide (x46_2 < t189) = true := decide_eq_true c26
                  clear c26
                  have H' := Aside0.mk H
                  clear H
                  have hnb27 := NB194_184.out
                  have hnc27 := NB184_194.out
                  have hnb28 := NB194_0.out
                  have hnc28 := NB0_194.out
                  have hcz29_0 : wr.cell? ⟨gb194, 0, none⟩ = some (.int .i64 t185) := (blk_cell BK194.out 0).trans rfl
                  have hcz29_1 : wr.cell? ⟨gb194, 1, none⟩ = some (.int .i64 t186) := (blk_cell BK194.out 1).trans rfl
                  have hcz29_2 : wr.cell? ⟨gb194, 2, none⟩ = some (.int .i64 t187) := (blk_cell BK194.out 2).trans rfl
                  have hcz29_3 : wr.cell? ⟨gb194, 3, none⟩ = some (.int .i64 t188) := (blk_cell BK194.out 3).trans rfl
                  have hcz29_4 : wr.cell? ⟨gb194, 4, none⟩ = some (.int .i64 t189) := (blk_cell BK194.out 4).trans rfl
                  have hfz29_0 := blk_frozen BK194.out 0
                  have hfz29_1 := blk_frozen BK194.out 1
                  have hfz29_2 := blk_frozen BK194.out 2
                  have hfz29_3 := blk_frozen BK194.out 3
                  have hfz29_4 := blk_frozen BK194.out 4
                  go_wp2
                  go_loopg [63] k2 (fun kq v63 w' => ∃ (x5_3 : List Int) (x63_3 : Int), v63 = .int .i64 x63_3 ∧ Aside0 (rre_draw.l2 kq a2 a3 x5_3 t196 (wrap64 ((wrap64 ((wrap64 (t187 + x46_2)) * a2)) + t186)) a4 x20_1 t189 x46_2 t188 x63_3 t191 t192 t193 a1_0 a1_1 a1_2 a1_3 a1_4 a1_5 a1_6 a1_7 a1_8 a1_9 t185 t186 t187 t188 t189 = some (r1, r2, r3, r4, r5)) ∧ Aside0 (kq ≤ k2) ∧ Aside0 (Kd.R (Kd.int .i64) 3 w' w0.heap.size (fun k_ => (P5_ k_ ∨ w.heap.size ≤ k_)) u9000_ x5_3) ∧ Aside0 (w'.heap[gb184]? = some (.cells #[.int .i64 a1_0, .int .i64 a1_1, .bool a1_2, .bool a1_3, .int .i64 a1_4, .int .i64 a1_5, .int .i64 a1_6, .int .i64 a1_7, .int .i64 a1_8, .int .i64 a1_9] 37 (0, 0))) ∧ Aside0 (w'.heap[gb194]? = some (.cells #[.int .i64 t185, .int .i64 t186, .int .i64 t187, .int .i64 t188, .int .i64 t189] 31 (0, 0))) ∧ Aside0 (IsS96 w0 w' g t191 t192 t193) ∧ Aside0 (Kept w w' (fun k_ => (P5_ k_) ∨ k_ = g)) ∧ Aside0 (Below w0.heap.size w0 w'))
                  case atStart => exact ⟨(x5_2), (0), (by first | rfl | (simp; done) | (simp [*]; done)), H', ⟨Nat.le_refl _⟩, ⟨by (with_reducible repeat (first | apply Kd.R_alloc | apply Kd.R_drewN | apply Kd.R_drew)); exact HO_5.out⟩, ⟨by (with_reducible repeat (first | refine blk_drewN ?_ _ | refine blk_drew ?_ | refine blk_alloc ?_ _)); exact BK184.out⟩, ⟨by (with_reducible repeat (first | refine blk_drewN ?_ _ | refine blk_drew ?_ | refine blk_alloc ?_ _)); exact BK194.out⟩, ⟨by repeat (first | (with_reducible first | exact HI0.out | apply IsS96.alloc | apply IsS96.drewN | apply IsS96.drew | apply IsS96.set_0 | apply IsS96.set_1 | apply IsS96.set_2 | refine IsS96.far ?_ NB0_184.out _ | refine IsS96.far ?_ NB0_194.out _) | exact HI0.out)⟩, ⟨by repeat (first | (with_reducible first | exact HK.out | apply Kept.alloc | apply Kept.drewN | apply Kept.drew | refine Kept.setCell ?_ (.inl (.inr rfl)) _ | refine Kept.setCell ?_ (.inr GW184.out) _ | refine Kept.setCell ?_ (.inr GW194.out) _) | exact HK.out)⟩, ⟨by repeat (first | (with_reducible first | exact HB.out | apply below_alloc | apply pw_below_drewN | apply below_drew1 | refine below_set ?_ (IsS96.ge HI0.out) | refine below_set ?_ GE184.out | refine below_set ?_ GE194.out) | exact HB.out)⟩⟩
                  case round =>
                    clear H'
                    try clear c1
                    try clear c2
                    try clear p2
                    try clear c4
                    try clear c6
                    try clear p6
                    try clear c8
                    try clear c8b0
                    try clear c10
                    try clear c10b0
                    try clear c10b1
                    try clear c12
                    try clear c14
                    try clear c18
                    try clear c19
                    try clear c26
                    try clear c26b0
                    try clear c27
                    try clear c28
                    try clear hcz15_0
                    try clear hcz15_1
                    try clear hcz15_2
                    try clear hcz15_3
                    try clear hcz15_4
                    try clear hcz15_5
                    try clear hcz15_6
                    try clear hcz15_7
                    try clear hcz15_8
                    try clear hcz15_9
                    try clear hcz20_0
                    try clear hcz20_1
                    try clear hcz20_2
                    try clear hcz20_3
                    try clear hcz20_4
                    try clear hcz22_0
                    try clear hcz22_1
                    try clear hcz22_2
                    try clear hcz22_3
                    try clear hcz22_4
                    try clear hcz22_5
                    try clear hcz22_6
                    try clear hcz22_7
                    try clear hcz22_8
                    try clear hcz22_9
                    try clear hcz23_0
                    try clear hcz23_1
                    try clear hcz23_2
                    try clear hcz23_3
                    try clear hcz23_4
                    try clear hcz25_0
                    try clear hcz25_1
                    try clear hcz25_2
                    try clear hcz25_3
                    try clear hcz25_4
                    try clear hcz29_0
                    try clear hcz29_1
                    try clear hcz29_2
                    try clear hcz29_3
                    try clear hcz29_4
                    try clear hfz15_0
                    try clear hfz15_1
                    try clear hfz15_2
                    try clear hfz15_3
                    try clear hfz15_4
                    try clear hfz15_5
                    try clear hfz15_6
                    try clear hfz15_7
                    try clear hfz15_8
                    try clear hfz15_9
                    try clear hfz20_0
                    try clear hfz20_1
                    try clear hfz20_2
                    try clear hfz20_3
                    try clear hfz20_4
                    try clear hfz22_0
                    try clear hfz22_1
                    try clear hfz22_2
                    try clear hfz22_3
                    try clear hfz22_4
                    try clear hfz22_5
                    try clear hfz22_6
                    try clear hfz22_7
                    try clear hfz22_8
                    try clear hfz22_9
                    try clear hfz23_0
                    try clear hfz23_1
                    try clear hfz23_2
                    try clear hfz23_3
                    try clear hfz23_4
                    try clear hfz25_0
                    try clear hfz25_1
                    try clear hfz25_2
                    try clear hfz25_3
                    try clear hfz25_4
                    try clear hfz29_0
                    try clear hfz29_1
                    try clear hfz29_2
                    try clear hfz29_3
                    try clear hfz29_4
                    try clear p2
                    obtain ⟨x5_3, x63_3, rfl, HA, HK3, HO_5, BK184, BK194, HI0, HK, HB⟩ := hrel
                    cases gk with
                    | zero => exact absurd HA.out (by simp [rre_draw.l2])
                    | succ k3 =>
                      have H := HA.out
                      clear HA
                      simp only [rre_draw.l2] at H
                      by_cases c30 : x63_3 < t188
                      · rw [if_pos c30] at H
                        have c30b0 : decide (x63_3 < t188) = true := decide_eq_true c30
                        clear c30
                        obtain ⟨ji31, hji31⟩ : ∃ j_ : Int, (wrap64 ((wrap64 ((wrap64 ((wrap64 (t187 + x46_2)) * a2)) + t186)) + x63_3)) = j_ := ⟨_, rfl⟩
                        replace H : (if 0 ≤ (ji31) then (if (ji31) < (x5_3.length : Int) then (rre_draw.l2 k3 a2 a3 (x5_3.set ((ji31) : Int).toNat t196) t196 (wrap64 ((wrap64 ((wrap64 (t187 + x46_2)) * a2)) + t186)) a4 x20_1 t189 x46_2 t188 (wrap64 (x63_3 + 1)) t191 t192 t193 a1_0 a1_1 a1_2 a1_3 a1_4 a1_5 a1_6 a1_7 a1_8 a1_9 t185 t186 t187 t188 t189) else (none)) else (none)) = some (r1, r2, r3, r4, r5) := by first | (rw [hji31] at H; exact H) | (simp only [hji31] at H ⊢; exact H)
                        have hji31w : (IntKind.i64.wrap ((wrap64 ((wrap64 ((wrap64 (t187 + x46_2)) * a2)) + t186)) + x63_3)) = ji31 := (i64_w _).trans hji31
                        by_cases c32 : 0 ≤ (ji31)
                        · rw [if_pos c32] at H
                          have c32b0 : decide (0 ≤ (ji31)) = true := decide_eq_true c32
                          clear c32
                          by_cases c33 : (ji31) < (x5_3.length : Int)
                          · rw [if_pos c33] at H
                            have c33b0 : decide ((ji31) < (x5_3.length : Int)) = true := decide_eq_true c33
                            clear c33
                            obtain ⟨y197, hy197⟩ : ∃ y_ : List Int, y_ = (x5_3.set ((ji31) : Int).toNat t196) := ⟨_, rfl⟩
                            replace H : (rre_draw.l2 k3 a2 a3 y197 t196 (wrap64 ((wrap64 ((wrap64 (t187 + x46_2)) * a2)) + t186)) a4 x20_1 t189 x46_2 t188 (wrap64 (x63_3 + 1)) t191 t192 t193 a1_0 a1_1 a1_2 a1_3 a1_4 a1_5 a1_6 a1_7 a1_8 a1_9 t185 t186 t187 t188 t189) = some (r1, r2, r3, r4, r5) := by first | (rw [hy197]; with_reducible exact H) | (have H2_ := (Option.bind_some _ _).symm.trans H; rw [hy197]; with_reducible exact H2_) | (have H2_ := (Option.bind_some _ _).symm.trans H; with_reducible exact H2_) | with_reducible exact H | (rw [hy197]; exact H) | exact H
                            have Ny197 := Aside0.mk hy197
                            clear hy197
                            have H' := Aside0.mk H
                            clear H
                            have p34 : 0 ≤ ((ji31) : Int) := of_decide_eq_true (by first | (with_reducible assumption) | assumption)
                            have q34 : ((ji31) : Int) < ((x5_3.length : Int) : Int) := of_decide_eq_true (by first | (with_reducible assumption) | assumption)
                            obtain ⟨go34, co34, eo34, gb34, gl34, cl34, HG34⟩ := Kd.R_form HO_5.out (by omega)
                            (first | cases eo34 | (injection eo34 with ea_ en_ ec_; (first | subst ea_ | (injection ea_ with ea_; subst ea_)); subst ec_; clear en_))
                            have GB34 := Aside0.mk gb34
                            have GG34 := Aside0.mk HG34
                            clear gb34 gl34 HG34
                            have HMgo34 := Aside0.mk (show (P5_ go34 ∨ w.heap.size ≤ go34) from (HO_5.out.1 _ rfl))
                            obtain ⟨hx34_0, hf34_0⟩ := Kd.R_celln 0 HO_5.out ((ji31) : Int) p34 q34
                            replace p34 := eq_true p34
                            replace q34 := eq_true q34
                            have HP35 := Kd.R_putg HO_5.out ((ji31) : Int) t196
                            go_wp2_with (first | ((with_reducible refine gate_store (t := 3) (p := 71) rfl ?_); refine store_event (t := 3) (p := 71) (v := ?vo_w36) (w1 := (wr.setCell ⟨go34, ((ji31) : Int).toNat, none⟩ (.int .i64 t196))) ?hg ?ho ?hn ?hr ?_; (case ho => rfl); (case hg => rfl); (case hn => rfl); (case hr => first | (go_simp; done) | (go_simp; rfl)); intro w36 hw; have hg : wr.grownBy w36 (some go34) := (by rw [hw]; exact HP35.2); have hp_ : Kd.R (Kd.int .i64) 3 w36 w0.heap.size (fun k_ => (P5_ k_ ∨ w.heap.size ≤ k_)) (.slice (some ⟨go34, 0, none⟩) x5_3.length co34) y197 := (by rw [hw, Ny197.out]; exact HP35.1); clear HP35; have n0_ := Aside0.mk (hp_); have n1_ := Aside0.mk (blk_grown (g := gb184) (o := .cells #[.int .i64 a1_0, .int .i64 a1_1, .bool a1_2, .bool a1_3, .int .i64 a1_4, .int .i64 a1_5, .int .i64 a1_6, .int .i64 a1_7, .int .i64 a1_8, .int .i64 a1_9] 37 (0, 0)) (by (with_reducible repeat (first | refine blk_drewN ?_ _ | refine blk_drew ?_ | refine blk_alloc ?_ _)); exact BK184.out) hg (Kd.R_ne HO_5.out BK184.out (by decide))); have n2_ := Aside0.mk (blk_grown (g := gb194) (o := .cells #[.int .i64 t185, .int .i64 t186, .int .i64 t187, .int .i64 t188, .int .i64 t189] 31 (0, 0)) (by (with_reducible repeat (first | refine blk_drewN ?_ _ | refine blk_drew ?_ | refine blk_alloc ?_ _)); exact BK194.out) hg (Kd.R_ne HO_5.out BK194.out (by decide))); have n3_ := Aside0.mk (IsS96.grown (by repeat (first | (with_reducible first | exact HI0.out | apply IsS96.alloc | apply IsS96.drewN | apply IsS96.drew | apply IsS96.set_0 | apply IsS96.set_1 | apply IsS96.set_2 | refine IsS96.far ?_ NB0_184.out _ | refine IsS96.far ?_ NB0_194.out _) | exact HI0.out)) hg (IsS96.own_ne HI0.out HO_5.out (by decide))); have n4_ := Aside0.mk ((by rw [hw]; exact below_set (HB.out) GB34.out : Below w0.heap.size w0 w36)); have n5_ := Aside0.mk (Kept.of_grown (S := (fun k_ => (P5_ k_) ∨ k_ = g)) hg (by repeat (first | (with_reducible first | exact HK.out | apply Kept.alloc | apply Kept.drewN | apply Kept.drew | refine Kept.setCell ?_ (.inl (.inr rfl)) _ | refine Kept.setCell ?_ (.inr GW184.out) _ | refine Kept.setCell ?_ (.inr GW194.out) _) | exact HK.out)) (fun k_ e_ => Or.imp_left Or.inl ((HO_5.out.1 k_ e_)))); clear HO_5; clear BK184; clear BK194; clear HI0; clear HB; clear HK; have HO_5 := n0_; have BK184 := n1_; have BK194 := n2_; have HI0 := n3_; have HB := n4_; have HK := n5_; clear n0_ n1_ n2_ n3_ n4_ n5_; clear hg hw hp_))
                            go_roundg k3
                            case measure => have := HK1.out; have := HK2.out; have := HK3.out; omega
                            case rel => exact ⟨(y197), (wrap64 (x63_3 + 1)), (by first | rfl | (simp; done) | (simp [*]; done)), H', ⟨by have := HK1.out; have := HK2.out; have := HK3.out; omega⟩, ⟨by (with_reducible repeat (first | apply Kd.R_alloc | apply Kd.R_drewN | apply Kd.R_drew)); exact HO_5.out⟩, ⟨by (with_reducible repeat (first | refine blk_drewN ?_ _ | refine blk_drew ?_ | refine blk_alloc ?_ _)); exact BK184.out⟩, ⟨by (with_reducible repeat (first | refine blk_drewN ?_ _ | refine blk_drew ?_ | refine blk_alloc ?_ _)); exact BK194.out⟩, ⟨by repeat (first | (with_reducible first | exact HI0.out | apply IsS96.alloc | apply IsS96.drewN | apply IsS96.drew | apply IsS96.set_0 | apply IsS96.set_1 | apply IsS96.set_2 | refine IsS96.far ?_ NB0_184.out _ | refine IsS96.far ?_ NB0_194.out _) | exact HI0.out)⟩, ⟨by repeat (first | (with_reducible first | exact HK.out | apply Kept.alloc | apply Kept.drewN | apply Kept.drew | refine Kept.setCell ?_ (.inl (.inr rfl)) _ | refine Kept.setCell ?_ (.inr GW184.out) _ | refine Kept.setCell ?_ (.inr GW194.out) _) | exact HK.out)⟩, ⟨by repeat (first | (with_reducible first | exact HB.out | apply below_alloc | apply pw_below_drewN | apply below_drew1 | refine below_set ?_ (IsS96.ge HI0.out) | refine below_set ?_ GE184.out | refine below_set ?_ GE194.out) | exact HB.out)⟩⟩
                          · rw [if_neg c33] at H
                            exact absurd H (by simp)
                        · rw [if_neg c32] at H
                          exact absurd H (by simp)
                      · rw [if_neg c30] at H
                        have c30b0 : decide (x63_3 < t188) = false := decide_eq_false c30
                        clear c30
                        have H' := Aside0.mk H
                        clear H
                        go_wp2
                        go_roundg k3
                        case measure => have := HK1.out; have := HK2.out; have := HK3.out; omega
                        case rel => exact ⟨(x5_3), (wrap64 (x46_2 + 1)), (by first | rfl | (simp; done) | (simp [*]; done)), H', ⟨by have := HK1.out; have := HK2.out; have := HK3.out; omega⟩, ⟨by (with_reducible repeat (first | apply Kd.R_alloc | apply Kd.R_drewN | apply Kd.R_drew)); exact HO_5.out⟩, ⟨by (with_reducible repeat (first | refine blk_drewN ?_ _ | refine blk_drew ?_ | refine blk_alloc ?_ _)); exact BK184.out⟩, ⟨by (with_reducible repeat (first | refine blk_drewN ?_ _ | refine blk_drew ?_ | refine blk_alloc ?_ _)); exact BK194.out⟩, ⟨by repeat (first | (with_reducible first | exact HI0.out | apply IsS96.alloc | apply IsS96.drewN | apply IsS96.drew | apply IsS96.set_0 | apply IsS96.set_1 | apply IsS96.set_2 | refine IsS96.far ?_ NB0_184.out _ | refine IsS96.far ?_ NB0_194.out _) | exact HI0.out)⟩, ⟨by repeat (first | (with_reducible first | exact HK.out | apply Kept.alloc | apply Kept.drewN | apply Kept.drew | refine Kept.setCell ?_ (.inl (.inr rfl)) _ | refine Kept.setCell ?_ (.inr GW184.out) _ | refine Kept.setCell ?_ (.inr GW194.out) _) | exact HK.out)⟩, ⟨by repeat (first | (with_reducible first | exact HB.out | apply below_alloc | apply pw_below_drewN | apply below_drew1 | refine below_set ?_ (IsS96.ge HI0.out) | refine below_set ?_ GE184.out | refine below_set ?_ GE194.out) | exact HB.out)⟩⟩
                · rw [if_neg c26] at H
                  have c26b0 : decide (x46_2 < t189) = false := decide_eq_false c26
                  clear c26
                  have H' := Aside0.mk H
                  clear H
                  go_wp2
                  go_roundg k2
                  case measure => have := HK1.out; have := HK2.out; omega
                  case rel => exact ⟨(x5_2), (wrap64 (x20_1 + 1)), (t191), (t192), (t193), (by first | rfl | (simp; done) | (simp [*]; done)), H', ⟨by have := HK1.out; have := HK2.out; omega⟩, ⟨by (with_reducible repeat (first | apply Kd.R_alloc | apply Kd.R_drewN | apply Kd.R_drew)); exact HO_5.out⟩, ⟨by (with_reducible repeat (first | refine blk_drewN ?_ _ | refine blk_drew ?_ | refine blk_alloc ?_ _)); exact BK184.out⟩, ⟨by repeat (first | (with_reducible first | exact HI0.out | apply IsS96.alloc | apply IsS96.drewN | apply IsS96.drew | apply IsS96.set_0 | apply IsS96.set_1 | apply IsS96.set_2 | refine IsS96.far ?_ NB0_184.out _ | refine IsS96.far ?_ NB0_194.out _) | exact HI0.out)⟩, ⟨by repeat (first | (with_reducible first | exact HK.out | apply Kept.alloc | apply Kept.drewN | apply Kept.drew | refine Kept.setCell ?_ (.inl (.inr rfl)) _ | refine Kept.setCell ?_ (.inr GW184.out) _ | refine Kept.setCell ?_ (.inr GW194.out) _) | exact HK.out)⟩, ⟨by repeat (first | (with_reducible first | exact HB.out | apply below_alloc | apply pw_below_drewN | apply below_drew1 | refine below_set ?_ (IsS96.ge HI0.out) | refine below_set ?_ GE184.out | refine below_set ?_ GE194.out) | exact HB.out)⟩⟩
          · replace c12 := Bool.eq_false_iff.mpr c12
            subst c12
            have H1 : (some (140, t191, t192, t193, x5_1)) = some (r1, r2, r3, r4, r5) := by rw [if_neg (show ¬ (false = true) by decide)] at H; exact H
            clear H
            have H := H1
            clear H1
            simp only [Option.some.injEq, Prod.mk.injEq] at H
            obtain ⟨rfl, rfl, rfl, rfl, rfl⟩ := H
            have hnb37 := NB184_0.out
            have hnc37 := NB0_184.out
            have hcz38_0 : wr.cell? ⟨gb184, 0, none⟩ = some (.int .i64 a1_0) := (blk_cell BK184.out 0).trans rfl
            have hcz38_1 : wr.cell? ⟨gb184, 1, none⟩ = some (.int .i64 a1_1) := (blk_cell BK184.out 1).trans rfl
            have hcz38_2 : wr.cell? ⟨gb184, 2, none⟩ = some (.bool a1_2) := (blk_cell BK184.out 2).trans rfl
            have hcz38_3 : wr.cell? ⟨gb184, 3, none⟩ = some (.bool a1_3) := (blk_cell BK184.out 3).trans rfl
            have hcz38_4 : wr.cell? ⟨gb184, 4, none⟩ = some (.int .i64 a1_4) := (blk_cell BK184.out 4).trans rfl
            have hcz38_5 : wr.cell? ⟨gb184, 5, none⟩ = some (.int .i64 a1_5) := (blk_cell BK184.out 5).trans rfl
            have hcz38_6 : wr.cell? ⟨gb184, 6, none⟩ = some (.int .i64 a1_6) := (blk_cell BK184.out 6).trans rfl
            have hcz38_7 : wr.cell? ⟨gb184, 7, none⟩ = some (.int .i64 a1_7) := (blk_cell BK184.out 7).trans rfl
            have hcz38_8 : wr.cell? ⟨gb184, 8, none⟩ = some (.int .i64 a1_8) := (blk_cell BK184.out 8).trans rfl
            have hcz38_9 : wr.cell? ⟨gb184, 9, none⟩ = some (.int .i64 a1_9) := (blk_cell BK184.out 9).trans rfl
            have hfz38_0 := blk_frozen BK184.out 0
            have hfz38_1 := blk_frozen BK184.out 1
            have hfz38_2 := blk_frozen BK184.out 2
            have hfz38_3 := blk_frozen BK184.out 3
            have hfz38_4 := blk_frozen BK184.out 4
            have hfz38_5 := blk_frozen BK184.out 5
            have hfz38_6 := blk_frozen BK184.out 6
            have hfz38_7 := blk_frozen BK184.out 7
            have hfz38_8 := blk_frozen BK184.out 8
            have hfz38_9 := blk_frozen BK184.out 9
            go_wp2_with (first | ((with_reducible refine gate_callee (f := 68) rfl ?_); refine goesL_ (some 25) rfl rfl Try.func68 (by kernel_rfl) rfl #[.pointer (some ⟨g, 0, none⟩), .agg #[.int .i64 a1_0, .int .i64 a1_1, .bool a1_2, .bool a1_3, .int .i64 a1_4, .int .i64 a1_5, .int .i64 a1_6, .int .i64 a1_7, .int .i64 a1_8, .int .i64 a1_9]] rfl (by (try simp only [List.map_toArray, List.map_cons, List.map_nil]); first | done | rfl | (simp only [List.length_drop, List.length_take]; rfl)) ?_; (with_reducible refine (rre_next.calls k1 g x1000_1 x1001_1 x1002_1 a1_0 a1_1 a1_2 a1_3 a1_4 a1_5 a1_6 a1_7 a1_8 a1_9 t185 t186 t187 t188 t189 t190 t191 t192 t193 w0 _ ?side1 ?side2 A9.out).mono ?_); (case side1 => repeat (first | (with_reducible first | exact HI0.out | apply IsS96.alloc | apply IsS96.drewN | apply IsS96.drew | apply IsS96.set_0 | apply IsS96.set_1 | apply IsS96.set_2 | refine IsS96.far ?_ NB0_184.out _) | exact HI0.out)); (case side2 => repeat (first | (with_reducible first | exact HB.out | apply below_alloc | apply pw_below_drewN | apply below_drew1 | refine below_set ?_ (IsS96.ge HI0.out) | refine below_set ?_ GE184.out) | exact HB.out)); rintro e w39 ⟨rfl, hi, hb, hk⟩; refine ⟨_, rfl, ?_⟩; have n0_ := Aside0.mk (Kd.R_mono (Kd.R_keep (IsS96.apart (show IsS96 w0 _ g x1000_1 x1001_1 x1002_1 from by repeat (first | (with_reducible first | exact HI0.out | apply IsS96.alloc | apply IsS96.drewN | apply IsS96.drew | apply IsS96.set_0 | apply IsS96.set_1 | apply IsS96.set_2 | refine IsS96.far ?_ NB0_184.out _) | exact HI0.out)) (by (with_reducible repeat (first | apply Kd.R_alloc | apply Kd.R_drewN | apply Kd.R_drew)); exact HO_5.out) (by decide)) hk (fun _ h => h.2)) (fun _ h => h.1)); have n1_ := Aside0.mk (KeepBut.blk hk (g' := gb184) (o := .cells #[.int .i64 a1_0, .int .i64 a1_1, .bool a1_2, .bool a1_3, .int .i64 a1_4, .int .i64 a1_5, .int .i64 a1_6, .int .i64 a1_7, .int .i64 a1_8, .int .i64 a1_9] 37 (0, 0)) (by (with_reducible repeat (first | refine blk_drewN ?_ _ | refine blk_drew ?_ | refine blk_alloc ?_ _)); exact BK184.out) NB184_0.out (by simp)); have n2_ := Aside0.mk (Kept.of_keep (S := (fun k_ => (P5_ k_) ∨ k_ = g)) (by repeat (first | (with_reducible first | exact HK.out | apply Kept.alloc | apply Kept.drewN | apply Kept.drew | refine Kept.setCell ?_ (.inl (.inr rfl)) _ | refine Kept.setCell ?_ (.inr GW184.out) _) | exact HK.out)) hk (.inl (.inr rfl))); have n3_ := Aside0.mk (hb); have n4_ := Aside0.mk (hi); clear HO_5; clear BK184; clear HK; clear HB; clear HI0; have HO_5 := n0_; have BK184 := n1_; have HK := n2_; have HB := n3_; have HI0 := n4_; clear n0_ n1_ n2_ n3_ n4_; (try clear hb); (try clear hb2); (try clear hk); (try clear hi)) | ((with_reducible refine gate_dst (N := 13) rfl ?_); refine box_event ?hg (N := 13) ?hd (cs := #[.int .i64 0, .int .i64 0, .int .i64 0, .int .i64 0, .int .i64 0]) (t := 31) ?hr ?_; (case hd => rfl); (case hg => rfl); (case hr => first | (go_simp; done) | (go_simp; rfl)); intro gb194 hg w40 hbox hb; have n0_ := Aside0.mk (Kd.R_below (by (with_reducible repeat (first | apply Kd.R_alloc | apply Kd.R_drewN | apply Kd.R_drew)); exact HO_5.out) hb); have n1_ := Aside0.mk (blk_below (g := gb184) (o := .cells #[.int .i64 a1_0, .int .i64 a1_1, .bool a1_2, .bool a1_3, .int .i64 a1_4, .int .i64 a1_5, .int .i64 a1_6, .int .i64 a1_7, .int .i64 a1_8, .int .i64 a1_9] 37 (0, 0)) (by (with_reducible repeat (first | refine blk_drewN ?_ _ | refine blk_drew ?_ | refine blk_alloc ?_ _)); exact BK184.out) hb); have n2_ := Aside0.mk (IsS96.below (by repeat (first | (with_reducible first | exact HI0.out | apply IsS96.alloc | apply IsS96.drewN | apply IsS96.drew | apply IsS96.set_0 | apply IsS96.set_1 | apply IsS96.set_2 | refine IsS96.far ?_ NB0_184.out _) | exact HI0.out)) hb); have n3_ := Aside0.mk (Kept.below (S := (fun k_ => (P5_ k_) ∨ k_ = g)) (by repeat (first | (with_reducible first | exact HK.out | apply Kept.alloc | apply Kept.drewN | apply Kept.drew | refine Kept.setCell ?_ (.inl (.inr rfl)) _ | refine Kept.setCell ?_ (.inr GW184.out) _) | exact HK.out)) hb); have n4_ := Aside0.mk (below_step (by repeat (first | (with_reducible first | exact HB.out | apply below_alloc | apply pw_below_drewN | apply below_drew1 | refine below_set ?_ (IsS96.ge HI0.out) | refine below_set ?_ GE184.out) | exact HB.out)) hb); have n5_ := Aside0.mk (hbox); have n6_ := Aside0.mk ((by rw [hg]; exact (by first | exact HK.out.1 | exact (show Kept w _ (fun k_ => (P5_ k_) ∨ k_ = g) from by repeat (first | (with_reducible first | exact HK.out | apply Kept.alloc | apply Kept.drewN | apply Kept.drew | refine Kept.setCell ?_ (.inl (.inr rfl)) _ | refine Kept.setCell ?_ (.inr GW184.out) _) | exact HK.out)).1) : w.heap.size ≤ gb194)); have n7_ := Aside0.mk ((by rw [hg]; exact (below_size (by repeat (first | (with_reducible first | exact HB.out | apply below_alloc | apply pw_below_drewN | apply below_drew1 | refine below_set ?_ (IsS96.ge HI0.out) | refine below_set ?_ GE184.out) | exact HB.out))) : w0.heap.size ≤ gb194)); have n8_ := Aside0.mk ((by rw [hg]; exact Nat.ne_of_lt (blk_lt (g := gb184) (o := .cells #[.int .i64 a1_0, .int .i64 a1_1, .bool a1_2, .bool a1_3, .int .i64 a1_4, .int .i64 a1_5, .int .i64 a1_6, .int .i64 a1_7, .int .i64 a1_8, .int .i64 a1_9] 37 (0, 0)) (by (with_reducible repeat (first | refine blk_drewN ?_ _ | refine blk_drew ?_ | refine blk_alloc ?_ _)); exact BK184.out)) : gb184 ≠ gb194)); have n9_ := Aside0.mk ((by rw [hg]; exact Nat.ne_of_gt (blk_lt (g := gb184) (o := .cells #[.int .i64 a1_0, .int .i64 a1_1, .bool a1_2, .bool a1_3, .int .i64 a1_4, .int .i64 a1_5, .int .i64 a1_6, .int .i64 a1_7, .int .i64 a1_8, .int .i64 a1_9] 37 (0, 0)) (by (with_reducible repeat (first | refine blk_drewN ?_ _ | refine blk_drew ?_ | refine blk_alloc ?_ _)); exact BK184.out)) : gb194 ≠ gb184)); have n10_ := Aside0.mk ((by rw [hg]; exact Nat.ne_of_lt (IsS96.lt (show IsS96 w0 _ g t191 t192 t193 from by repeat (first | (with_reducible first | exact HI0.out | apply IsS96.alloc | apply IsS96.drewN | apply IsS96.drew | apply IsS96.set_0 | apply IsS96.set_1 | apply IsS96.set_2 | refine IsS96.far ?_ NB0_184.out _) | exact HI0.out))) : g ≠ gb194)); have n11_ := Aside0.mk ((by rw [hg]; exact Nat.ne_of_gt (IsS96.lt (show IsS96 w0 _ g t191 t192 t193 from by repeat (first | (with_reducible first | exact HI0.out | apply IsS96.alloc | apply IsS96.drewN | apply IsS96.drew | apply IsS96.set_0 | apply IsS96.set_1 | apply IsS96.set_2 | refine IsS96.far ?_ NB0_184.out _) | exact HI0.out))) : gb194 ≠ g)); clear HO_5; clear BK184; clear HI0; clear HK; clear HB; have HO_5 := n0_; have BK184 := n1_; have HI0 := n2_; have HK := n3_; have HB := n4_; have BK194 := n5_; have GW194 := n6_; have GE194 := n7_; have NB184_194 := n8_; have NB194_184 := n9_; have NB0_194 := n10_; have NB194_0 := n11_; clear n0_ n1_ n2_ n3_ n4_ n5_ n6_ n7_ n8_ n9_ n10_ n11_; clear hb hbox hg; have hnb41 := NB194_184.out; have hnc41 := NB184_194.out; have hnb42 := NB194_0.out; have hnc42 := NB0_194.out; have hcz43_0 : w40.cell? ⟨gb194, 0, none⟩ = some (.int .i64 0) := (blk_cell BK194.out 0).trans rfl; have hcz43_1 : w40.cell? ⟨gb194, 1, none⟩ = some (.int .i64 0) := (blk_cell BK194.out 1).trans rfl; have hcz43_2 : w40.cell? ⟨gb194, 2, none⟩ = some (.int .i64 0) := (blk_cell BK194.out 2).trans rfl; have hcz43_3 : w40.cell? ⟨gb194, 3, none⟩ = some (.int .i64 0) := (blk_cell BK194.out 3).trans rfl; have hcz43_4 : w40.cell? ⟨gb194, 4, none⟩ = some (.int .i64 0) := (blk_cell BK194.out 4).trans rfl; have hfz43_0 := blk_frozen BK194.out 0; have hfz43_1 := blk_frozen BK194.out 1; have hfz43_2 := blk_frozen BK194.out 2; have hfz43_3 := blk_frozen BK194.out 3; have hfz43_4 := blk_frozen BK194.out 4) | ((with_reducible refine gate_callee (f := 69) rfl ?_); refine goesL_ (some 37) rfl rfl Try.func69 (by kernel_rfl) rfl #[.agg #[.int .i64 t186, .int .i64 t187, .int .i64 t188, .int .i64 t189], .int .i64 a2, .int .i64 a3] rfl (by (try simp only [List.map_toArray, List.map_cons, List.map_nil]); first | done | rfl | (simp only [List.length_drop, List.length_take]; rfl)) ?_; (with_reducible refine (screen_Inside.calls t186 t187 t188 t189 a2 a3 false _ A11.out).mono ?_); rintro e w44 ⟨rfl, hb⟩; refine ⟨_, rfl, ?_⟩; have n0_ := Aside0.mk (Kd.R_below (by (with_reducible repeat (first | apply Kd.R_alloc | apply Kd.R_drewN | apply Kd.R_drew)); exact (Kd.R_mono (Kd.R_far (p := ⟨gb194, 4, none⟩) (Kd.R_far (p := ⟨gb194, 3, none⟩) (Kd.R_far (p := ⟨gb194, 2, none⟩) (Kd.R_far (p := ⟨gb194, 1, none⟩) (Kd.R_far (p := ⟨gb194, 0, none⟩) (Kd.R_types HO_5.out BK194.out (by decide)) (fun _ hk => hk.2) (.int .i64 t185)) (fun _ hk => hk.2) (.int .i64 t186)) (fun _ hk => hk.2) (.int .i64 t187)) (fun _ hk => hk.2) (.int .i64 t188)) (fun _ hk => hk.2) (.int .i64 t189)) (fun _ h_ => h_.1))) hb); have n1_ := Aside0.mk (blk_below (g := gb184) (o := .cells #[.int .i64 a1_0, .int .i64 a1_1, .bool a1_2, .bool a1_3, .int .i64 a1_4, .int .i64 a1_5, .int .i64 a1_6, .int .i64 a1_7, .int .i64 a1_8, .int .i64 a1_9] 37 (0, 0)) (by (with_reducible repeat (first | refine blk_drewN ?_ _ | refine blk_drew ?_ | refine blk_alloc ?_ _)); refine blk_far ?_ NB184_194.out _; (with_reducible repeat (first | refine blk_drewN ?_ _ | refine blk_drew ?_ | refine blk_alloc ?_ _)); refine blk_far ?_ NB184_194.out _; (with_reducible repeat (first | refine blk_drewN ?_ _ | refine blk_drew ?_ | refine blk_alloc ?_ _)); refine blk_far ?_ NB184_194.out _; (with_reducible repeat (first | refine blk_drewN ?_ _ | refine blk_drew ?_ | refine blk_alloc ?_ _)); refine blk_far ?_ NB184_194.out _; (with_reducible repeat (first | refine blk_drewN ?_ _ | refine blk_drew ?_ | refine blk_alloc ?_ _)); refine blk_far ?_ NB184_194.out _; (with_reducible repeat (first | refine blk_drewN ?_ _ | refine blk_drew ?_ | refine blk_alloc ?_ _)); exact BK184.out) hb); have n2_ := Aside0.mk (IsS96.below (show IsS96 w0 (((((w40.setCell ⟨gb194, 0, none⟩ (.int .i64 t185)).setCell ⟨gb194, 1, none⟩ (.int .i64 t186)).setCell ⟨gb194, 2, none⟩ (.int .i64 t187)).setCell ⟨gb194, 3, none⟩ (.int .i64 t188)).setCell ⟨gb194, 4, none⟩ (.int .i64 t189)) g t191 t192 t193 from by repeat (first | (with_reducible first | exact HI0.out | apply IsS96.alloc | apply IsS96.drewN | apply IsS96.drew | apply IsS96.set_0 | apply IsS96.set_1 | apply IsS96.set_2 | refine IsS96.far ?_ NB0_184.out _ | refine IsS96.far ?_ NB0_194.out _) | exact HI0.out)) hb); have n3_ := Aside0.mk (blk_below (g := gb194) (o := .cells #[.int .i64 t185, .int .i64 t186, .int .i64 t187, .int .i64 t188, .int .i64 t189] 31 (0, 0)) (by (with_reducible repeat (first | refine blk_drewN ?_ _ | refine blk_drew ?_ | refine blk_alloc ?_ _)); refine blk_put (cs := #[.int .i64 t185, .int .i64 t186, .int .i64 t187, .int .i64 t188, .int .i64 0]) ?_ 4 _ rfl; (with_reducible repeat (first | refine blk_drewN ?_ _ | refine blk_drew ?_ | refine blk_alloc ?_ _)); refine blk_put (cs := #[.int .i64 t185, .int .i64 t186, .int .i64 t187, .int .i64 0, .int .i64 0]) ?_ 3 _ rfl; (with_reducible repeat (first | refine blk_drewN ?_ _ | refine blk_drew ?_ | refine blk_alloc ?_ _)); refine blk_put (cs := #[.int .i64 t185, .int .i64 t186, .int .i64 0, .int .i64 0, .int .i64 0]) ?_ 2 _ rfl; (with_reducible repeat (first | refine blk_drewN ?_ _ | refine blk_drew ?_ | refine blk_alloc ?_ _)); refine blk_put (cs := #[.int .i64 t185, .int .i64 0, .int .i64 0, .int .i64 0, .int .i64 0]) ?_ 1 _ rfl; (with_reducible repeat (first | refine blk_drewN ?_ _ | refine blk_drew ?_ | refine blk_alloc ?_ _)); refine blk_put (cs := #[.int .i64 0, .int .i64 0, .int .i64 0, .int .i64 0, .int .i64 0]) ?_ 0 _ rfl; (with_reducible repeat (first | refine blk_drewN ?_ _ | refine blk_drew ?_ | refine blk_alloc ?_ _)); exact BK194.out) hb); have n4_ := Aside0.mk (Kept.below (S := (fun k_ => (P5_ k_) ∨ k_ = g)) (by repeat (first | (with_reducible first | exact HK.out | apply Kept.alloc | apply Kept.drewN | apply Kept.drew | refine Kept.setCell ?_ (.inl (.inr rfl)) _ | refine Kept.setCell ?_ (.inr GW184.out) _ | refine Kept.setCell ?_ (.inr GW194.out) _) | exact HK.out)) hb); have n5_ := Aside0.mk (below_step (by repeat (first | (with_reducible first | exact HB.out | apply below_alloc | apply pw_below_drewN | apply below_drew1 | refine below_set ?_ (IsS96.ge HI0.out) | refine below_set ?_ GE184.out | refine below_set ?_ GE194.out) | exact HB.out)) hb); clear HO_5; clear BK184; clear HI0; clear BK194; clear HK; clear HB; have HO_5 := n0_; have BK184 := n1_; have HI0 := n2_; have BK194 := n3_; have HK := n4_; have HB := n5_; clear n0_ n1_ n2_ n3_ n4_ n5_; (try clear hb); (try clear hb2); (try clear hk); (try clear hi)))
            go_ret
            exact ⟨by first | rfl | (simp [errW_none, errW_some] <;> rfl) | (simp [*, errW_none, errW_some] <;> rfl), by repeat (first | (with_reducible first | exact HI0.out | apply IsS96.alloc | apply IsS96.drewN | apply IsS96.drew | apply IsS96.set_0 | apply IsS96.set_1 | apply IsS96.set_2 | refine IsS96.far ?_ NB0_184.out _ | refine IsS96.far ?_ NB0_194.out _) | exact HI0.out), by (with_reducible repeat (first | apply Kd.R_alloc | apply Kd.R_drewN | apply Kd.R_drew)); exact HO_5.out, by repeat (first | (with_reducible first | exact HB.out | apply below_alloc | apply pw_below_drewN | apply below_drew1 | refine below_set ?_ (IsS96.ge HI0.out) | refine below_set ?_ GE184.out | refine below_set ?_ GE194.out) | exact HB.out), by repeat (first | (with_reducible first | exact HK.out | apply Kept.alloc | apply Kept.drewN | apply Kept.drew | refine Kept.setCell ?_ (.inl (.inr rfl)) _ | refine Kept.setCell ?_ (.inr GW184.out) _ | refine Kept.setCell ?_ (.inr GW194.out) _) | exact HK.out)⟩
        · rw [if_neg c10] at H
          have c10b0 : (t190 == 0) = false := beq_eq_false_iff_ne.mpr c10
          have c10b1 : (t190 != 0) = true := bne_iff_ne.mpr c10
          simp only [Option.some.injEq, Prod.mk.injEq] at H
          obtain ⟨rfl, rfl, rfl, rfl, rfl⟩ := H
          have hnb45 := NB184_0.out
          have hnc45 := NB0_184.out
          have hcz46_0 : wr.cell? ⟨gb184, 0, none⟩ = some (.int .i64 a1_0) := (blk_cell BK184.out 0).trans rfl
          have hcz46_1 : wr.cell? ⟨gb184, 1, none⟩ = some (.int .i64 a1_1) := (blk_cell BK184.out 1).trans rfl
          have hcz46_2 : wr.cell? ⟨gb184, 2, none⟩ = some (.bool a1_2) := (blk_cell BK184.out 2).trans rfl
          have hcz46_3 : wr.cell? ⟨gb184, 3, none⟩ = some (.bool a1_3) := (blk_cell BK184.out 3).trans rfl
          have hcz46_4 : wr.cell? ⟨gb184, 4, none⟩ = some (.int .i64 a1_4) := (blk_cell BK184.out 4).trans rfl
          have hcz46_5 : wr.cell? ⟨gb184, 5, none⟩ = some (.int .i64 a1_5) := (blk_cell BK184.out 5).trans rfl
          have hcz46_6 : wr.cell? ⟨gb184, 6, none⟩ = some (.int .i64 a1_6) := (blk_cell BK184.out 6).trans rfl
          have hcz46_7 : wr.cell? ⟨gb184, 7, none⟩ = some (.int .i64 a1_7) := (blk_cell BK184.out 7).trans rfl
          have hcz46_8 : wr.cell? ⟨gb184, 8, none⟩ = some (.int .i64 a1_8) := (blk_cell BK184.out 8).trans rfl
          have hcz46_9 : wr.cell? ⟨gb184, 9, none⟩ = some (.int .i64 a1_9) := (blk_cell BK184.out 9).trans rfl
          have hfz46_0 := blk_frozen BK184.out 0
          have hfz46_1 := blk_frozen BK184.out 1
          have hfz46_2 := blk_frozen BK184.out 2
          have hfz46_3 := blk_frozen BK184.out 3
          have hfz46_4 := blk_frozen BK184.out 4
          have hfz46_5 := blk_frozen BK184.out 5
          have hfz46_6 := blk_frozen BK184.out 6
          have hfz46_7 := blk_frozen BK184.out 7
          have hfz46_8 := blk_frozen BK184.out 8
          have hfz46_9 := blk_frozen BK184.out 9
          go_wp2_with (first | ((with_reducible refine gate_callee (f := 68) rfl ?_); refine goesL_ (some 25) rfl rfl Try.func68 (by kernel_rfl) rfl #[.pointer (some ⟨g, 0, none⟩), .agg #[.int .i64 a1_0, .int .i64 a1_1, .bool a1_2, .bool a1_3, .int .i64 a1_4, .int .i64 a1_5, .int .i64 a1_6, .int .i64 a1_7, .int .i64 a1_8, .int .i64 a1_9]] rfl (by (try simp only [List.map_toArray, List.map_cons, List.map_nil]); first | done | rfl | (simp only [List.length_drop, List.length_take]; rfl)) ?_; (with_reducible refine (rre_next.calls k1 g x1000_1 x1001_1 x1002_1 a1_0 a1_1 a1_2 a1_3 a1_4 a1_5 a1_6 a1_7 a1_8 a1_9 t185 t186 t187 t188 t189 t190 t191 t192 t193 w0 _ ?side1 ?side2 A9.out).mono ?_); (case side1 => repeat (first | (with_reducible first | exact HI0.out | apply IsS96.alloc | apply IsS96.drewN | apply IsS96.drew | apply IsS96.set_0 | apply IsS96.set_1 | apply IsS96.set_2 | refine IsS96.far ?_ NB0_184.out _) | exact HI0.out)); (case side2 => repeat (first | (with_reducible first | exact HB.out | apply below_alloc | apply pw_below_drewN | apply below_drew1 | refine below_set ?_ (IsS96.ge HI0.out) | refine below_set ?_ GE184.out) | exact HB.out)); rintro e w47 ⟨rfl, hi, hb, hk⟩; refine ⟨_, rfl, ?_⟩; have n0_ := Aside0.mk (Kd.R_mono (Kd.R_keep (IsS96.apart (show IsS96 w0 _ g x1000_1 x1001_1 x1002_1 from by repeat (first | (with_reducible first | exact HI0.out | apply IsS96.alloc | apply IsS96.drewN | apply IsS96.drew | apply IsS96.set_0 | apply IsS96.set_1 | apply IsS96.set_2 | refine IsS96.far ?_ NB0_184.out _) | exact HI0.out)) (by (with_reducible repeat (first | apply Kd.R_alloc | apply Kd.R_drewN | apply Kd.R_drew)); exact HO_5.out) (by decide)) hk (fun _ h => h.2)) (fun _ h => h.1)); have n1_ := Aside0.mk (KeepBut.blk hk (g' := gb184) (o := .cells #[.int .i64 a1_0, .int .i64 a1_1, .bool a1_2, .bool a1_3, .int .i64 a1_4, .int .i64 a1_5, .int .i64 a1_6, .int .i64 a1_7, .int .i64 a1_8, .int .i64 a1_9] 37 (0, 0)) (by (with_reducible repeat (first | refine blk_drewN ?_ _ | refine blk_drew ?_ | refine blk_alloc ?_ _)); exact BK184.out) NB184_0.out (by simp)); have n2_ := Aside0.mk (Kept.of_keep (S := (fun k_ => (P5_ k_) ∨ k_ = g)) (by repeat (first | (with_reducible first | exact HK.out | apply Kept.alloc | apply Kept.drewN | apply Kept.drew | refine Kept.setCell ?_ (.inl (.inr rfl)) _ | refine Kept.setCell ?_ (.inr GW184.out) _) | exact HK.out)) hk (.inl (.inr rfl))); have n3_ := Aside0.mk (hb); have n4_ := Aside0.mk (hi); clear HO_5; clear BK184; clear HK; clear HB; clear HI0; have HO_5 := n0_; have BK184 := n1_; have HK := n2_; have HB := n3_; have HI0 := n4_; clear n0_ n1_ n2_ n3_ n4_; (try clear hb); (try clear hb2); (try clear hk); (try clear hi)) | ((with_reducible refine gate_dst (N := 13) rfl ?_); refine box_event ?hg (N := 13) ?hd (cs := #[.int .i64 0, .int .i64 0, .int .i64 0, .int .i64 0, .int .i64 0]) (t := 31) ?hr ?_; (case hd => rfl); (case hg => rfl); (case hr => first | (go_simp; done) | (go_simp; rfl)); intro gb194 hg w48 hbox hb; have n0_ := Aside0.mk (Kd.R_below (by (with_reducible repeat (first | apply Kd.R_alloc | apply Kd.R_drewN | apply Kd.R_drew)); exact HO_5.out) hb); have n1_ := Aside0.mk (blk_below (g := gb184) (o := .cells #[.int .i64 a1_0, .int .i64 a1_1, .bool a1_2, .bool a1_3, .int .i64 a1_4, .int .i64 a1_5, .int .i64 a1_6, .int .i64 a1_7, .int .i64 a1_8, .int .i64 a1_9] 37 (0, 0)) (by (with_reducible repeat (first | refine blk_drewN ?_ _ | refine blk_drew ?_ | refine blk_alloc ?_ _)); exact BK184.out) hb); have n2_ := Aside0.mk (IsS96.below (by repeat (first | (with_reducible first | exact HI0.out | apply IsS96.alloc | apply IsS96.drewN | apply IsS96.drew | apply IsS96.set_0 | apply IsS96.set_1 | apply IsS96.set_2 | refine IsS96.far ?_ NB0_184.out _) | exact HI0.out)) hb); have n3_ := Aside0.mk (Kept.below (S := (fun k_ => (P5_ k_) ∨ k_ = g)) (by repeat (first | (with_reducible first | exact HK.out | apply Kept.alloc | apply Kept.drewN | apply Kept.drew | refine Kept.setCell ?_ (.inl (.inr rfl)) _ | refine Kept.setCell ?_ (.inr GW184.out) _) | exact HK.out)) hb); have n4_ := Aside0.mk (below_step (by repeat (first | (with_reducible first | exact HB.out | apply below_alloc | apply pw_below_drewN | apply below_drew1 | refine below_set ?_ (IsS96.ge HI0.out) | refine below_set ?_ GE184.out) | exact HB.out)) hb); have n5_ := Aside0.mk (hbox); have n6_ := Aside0.mk ((by rw [hg]; exact (by first | exact HK.out.1 | exact (show Kept w _ (fun k_ => (P5_ k_) ∨ k_ = g) from by repeat (first | (with_reducible first | exact HK.out | apply Kept.alloc | apply Kept.drewN | apply Kept.drew | refine Kept.setCell ?_ (.inl (.inr rfl)) _ | refine Kept.setCell ?_ (.inr GW184.out) _) | exact HK.out)).1) : w.heap.size ≤ gb194)); have n7_ := Aside0.mk ((by rw [hg]; exact (below_size (by repeat (first | (with_reducible first | exact HB.out | apply below_alloc | apply pw_below_drewN | apply below_drew1 | refine below_set ?_ (IsS96.ge HI0.out) | refine below_set ?_ GE184.out) | exact HB.out))) : w0.heap.size ≤ gb194)); have n8_ := Aside0.mk ((by rw [hg]; exact Nat.ne_of_lt (blk_lt (g := gb184) (o := .cells #[.int .i64 a1_0, .int .i64 a1_1, .bool a1_2, .bool a1_3, .int .i64 a1_4, .int .i64 a1_5, .int .i64 a1_6, .int .i64 a1_7, .int .i64 a1_8, .int .i64 a1_9] 37 (0, 0)) (by (with_reducible repeat (first | refine blk_drewN ?_ _ | refine blk_drew ?_ | refine blk_alloc ?_ _)); exact BK184.out)) : gb184 ≠ gb194)); have n9_ := Aside0.mk ((by rw [hg]; exact Nat.ne_of_gt (blk_lt (g := gb184) (o := .cells #[.int .i64 a1_0, .int .i64 a1_1, .bool a1_2, .bool a1_3, .int .i64 a1_4, .int .i64 a1_5, .int .i64 a1_6, .int .i64 a1_7, .int .i64 a1_8, .int .i64 a1_9] 37 (0, 0)) (by (with_reducible repeat (first | refine blk_drewN ?_ _ | refine blk_drew ?_ | refine blk_alloc ?_ _)); exact BK184.out)) : gb194 ≠ gb184)); have n10_ := Aside0.mk ((by rw [hg]; exact Nat.ne_of_lt (IsS96.lt (show IsS96 w0 _ g t191 t192 t193 from by repeat (first | (with_reducible first | exact HI0.out | apply IsS96.alloc | apply IsS96.drewN | apply IsS96.drew | apply IsS96.set_0 | apply IsS96.set_1 | apply IsS96.set_2 | refine IsS96.far ?_ NB0_184.out _) | exact HI0.out))) : g ≠ gb194)); have n11_ := Aside0.mk ((by rw [hg]; exact Nat.ne_of_gt (IsS96.lt (show IsS96 w0 _ g t191 t192 t193 from by repeat (first | (with_reducible first | exact HI0.out | apply IsS96.alloc | apply IsS96.drewN | apply IsS96.drew | apply IsS96.set_0 | apply IsS96.set_1 | apply IsS96.set_2 | refine IsS96.far ?_ NB0_184.out _) | exact HI0.out))) : gb194 ≠ g)); clear HO_5; clear BK184; clear HI0; clear HK; clear HB; have HO_5 := n0_; have BK184 := n1_; have HI0 := n2_; have HK := n3_; have HB := n4_; have BK194 := n5_; have GW194 := n6_; have GE194 := n7_; have NB184_194 := n8_; have NB194_184 := n9_; have NB0_194 := n10_; have NB194_0 := n11_; clear n0_ n1_ n2_ n3_ n4_ n5_ n6_ n7_ n8_ n9_ n10_ n11_; clear hb hbox hg; have hnb49 := NB194_184.out; have hnc49 := NB184_194.out; have hnb50 := NB194_0.out; have hnc50 := NB0_194.out; have hcz51_0 : w48.cell? ⟨gb194, 0, none⟩ = some (.int .i64 0) := (blk_cell BK194.out 0).trans rfl; have hcz51_1 : w48.cell? ⟨gb194, 1, none⟩ = some (.int .i64 0) := (blk_cell BK194.out 1).trans rfl; have hcz51_2 : w48.cell? ⟨gb194, 2, none⟩ = some (.int .i64 0) := (blk_cell BK194.out 2).trans rfl; have hcz51_3 : w48.cell? ⟨gb194, 3, none⟩ = some (.int .i64 0) := (blk_cell BK194.out 3).trans rfl; have hcz51_4 : w48.cell? ⟨gb194, 4, none⟩ = some (.int .i64 0) := (blk_cell BK194.out 4).trans rfl; have hfz51_0 := blk_frozen BK194.out 0; have hfz51_1 := blk_frozen BK194.out 1; have hfz51_2 := blk_frozen BK194.out 2; have hfz51_3 := blk_frozen BK194.out 3; have hfz51_4 := blk_frozen BK194.out 4))
          go_ret
          exact ⟨by first | rfl | (simp [errW_none, errW_some] <;> rfl) | (simp [*, errW_none, errW_some] <;> rfl), by repeat (first | (with_reducible first | exact HI0.out | apply IsS96.alloc | apply IsS96.drewN | apply IsS96.drew | apply IsS96.set_0 | apply IsS96.set_1 | apply IsS96.set_2 | refine IsS96.far ?_ NB0_184.out _ | refine IsS96.far ?_ NB0_194.out _) | exact HI0.out), by (with_reducible repeat (first | apply Kd.R_alloc | apply Kd.R_drewN | apply Kd.R_drew)); exact Kd.R_mono (Kd.R_far (p := ⟨gb194, 4, none⟩) (Kd.R_far (p := ⟨gb194, 3, none⟩) (Kd.R_far (p := ⟨gb194, 2, none⟩) (Kd.R_far (p := ⟨gb194, 1, none⟩) (Kd.R_far (p := ⟨gb194, 0, none⟩) (Kd.R_types HO_5.out BK194.out (by decide)) (fun _ hk => hk.2) (.int .i64 t185)) (fun _ hk => hk.2) (.int .i64 t186)) (fun _ hk => hk.2) (.int .i64 t187)) (fun _ hk => hk.2) (.int .i64 t188)) (fun _ hk => hk.2) (.int .i64 t189)) (fun _ hk => hk.1), by repeat (first | (with_reducible first | exact HB.out | apply below_alloc | apply pw_below_drewN | apply below_drew1 | refine below_set ?_ (IsS96.ge HI0.out) | refine below_set ?_ GE184.out | refine below_set ?_ GE194.out) | exact HB.out), by repeat (first | (with_reducible first | exact HK.out | apply Kept.alloc | apply Kept.drewN | apply Kept.drew | refine Kept.setCell ?_ (.inl (.inr rfl)) _ | refine Kept.setCell ?_ (.inr GW184.out) _ | refine Kept.setCell ?_ (.inr GW194.out) _) | exact HK.out)⟩
      · rw [if_neg c8] at H
        have c8b0 : decide (x20_1 < a4) = false := decide_eq_false c8
        clear c8
        simp only [Option.some.injEq, Prod.mk.injEq] at H
        obtain ⟨rfl, rfl, rfl, rfl, rfl⟩ := H
        go_wp2
        go_ret
        exact ⟨by first | rfl | (simp [errW_none, errW_some] <;> rfl) | (simp [*, errW_none, errW_some] <;> rfl), by repeat (first | (with_reducible first | exact HI0.out | apply IsS96.alloc | apply IsS96.drewN | apply IsS96.drew | apply IsS96.set_0 | apply IsS96.set_1 | apply IsS96.set_2 | refine IsS96.far ?_ NB0_184.out _) | exact HI0.out), by (with_reducible repeat (first | apply Kd.R_alloc | apply Kd.R_drewN | apply Kd.R_drew)); exact HO_5.out, by repeat (first | (with_reducible first | exact HB.out | apply below_alloc | apply pw_below_drewN | apply below_drew1 | refine below_set ?_ (IsS96.ge HI0.out) | refine below_set ?_ GE184.out) | exact HB.out), by repeat (first | (with_reducible first | exact HK.out | apply Kept.alloc | apply Kept.drewN | apply Kept.drew | refine Kept.setCell ?_ (.inl (.inr rfl)) _ | refine Kept.setCell ?_ (.inr GW184.out) _) | exact HK.out)⟩

end Go.Proofs.Ytkmfhfejogjnfaa.X
