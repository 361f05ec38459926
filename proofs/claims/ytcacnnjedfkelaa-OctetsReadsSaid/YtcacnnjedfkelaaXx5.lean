/- What each Go function that these laws use answers: as a Lean function, with the proof that the machine's call comes to it. Written by a program of this session (xprint.py). -/
import Derived.Test.YtcacnnjedfkelaaXx0
import Derived.Test.YtcacnnjedfkelaaXx1
import Derived.Test.YtcacnnjedfkelaaXx2
import Derived.Test.YtcacnnjedfkelaaXx3
import Derived.Test.YtcacnnjedfkelaaXx4
namespace Go.Proofs.Ytcacnnjedfkelaa.X
open Go.RowKit Go.Proofs.YtcacnnjedfkelaaW.PrintWords Go.Proofs.YtcacnnjedfkelaaW.PrintLast Go.Proofs.YtcacnnjedfkelaaW.PrintMore
attribute [local go_sem] max2_int min2_int max_two min_two max_three min_three max_four min_four   -- for this text's walks alone
set_option linter.unusedVariables false
set_option linter.unusedSimpArgs false

/-! ### miradorlaw01_OctetsBack: function 7 -/
def miradorlaw01_OctetsBack.j0 : Nat → Int → ByteArray → Bool → ByteArray → Bool → ByteArray → Int → Int → Option (Bool)
  | 0, _, _, _, _, _, _, _, _ => none
  | k + 1, x2, x3, x9, x14, x79, x219000, x219001, x219002 => if x79 = true then (some false) else (if x14.toList = ([] : List UInt8) then (if x9 = true then ((octets_Cursor_Left.f x219000 x219001 x219002).bind fun bt227 => (if bt227.1 = (x3.size : Int) then ((octets_Cursor_Err.f bt227.2.1 bt227.2.2.1 bt227.2.2.2).bind fun bt231 => (some (bt231.1 == 0))) else (some false))) else (some false)) else (if x9 = true then ((octets_Cursor_Signed.f x219000 x219001 x219002).bind fun bt235 => (if bt235.1 = x2 then ((octets_Cursor_Bytes.f bt235.2.1 bt235.2.2.1 bt235.2.2.2 (x3.size : Int)).bind fun bt239 => (if bt239.1.toList = x3.toList then ((octets_Cursor_End.f bt239.2.1 bt239.2.2.1 bt239.2.2.2).bind fun bt243 => (if bt243.1 = 0 then (some ((x14.size : Int) == 4)) else (some false))) else (some false))) else (some false))) else (some false)))
def miradorlaw01_OctetsBack.f (k : Nat) (a0 : Int) (a1 : Int) (a2 : Int) (a3 : ByteArray) : Option (Bool) := (miradorlaw01_works.f k).bind fun t209 => (if t209 = true then (if (a3.size : Int) > 300 then (some t209) else ((octets_Put.f k a0 a1).bind fun bt210 => ((octets_Little.f k a0 a1).bind fun bt212 => (if bt210.2 = 0 then ((octets_Signed.f k a2).bind fun t214 => (if bt210.1.size + bt212.1.size ≤ 9223372036854775807 then (if (bt210.1 ++ bt212.1).size + t214.size ≤ 9223372036854775807 then (if ((bt210.1 ++ bt212.1) ++ t214).size + a3.size ≤ 9223372036854775807 then ((octets_New.f (((bt210.1 ++ bt212.1) ++ t214) ++ a3)).bind fun bt215 => ((octets_Cursor_Int.f bt215.1 bt215.2.1 bt215.2.2 a0).bind fun bt219 => (if bt219.1 = a1 then ((octets_Cursor_Little.f bt219.2.1 bt219.2.2.1 bt219.2.2.2 a0).bind fun bt223 => (if bt223.1 = a1 then (if (bt210.1.size : Int) = a0 then (miradorlaw01_OctetsBack.j0 k a2 a3 t209 t214 ((bt212.1.size : Int) != a0) bt223.2.1 bt223.2.2.1 bt223.2.2.2) else (miradorlaw01_OctetsBack.j0 k a2 a3 t209 t214 true bt223.2.1 bt223.2.2.1 bt223.2.2.2)) else (miradorlaw01_OctetsBack.j0 k a2 a3 t209 t214 true bt223.2.1 bt223.2.2.1 bt223.2.2.2))) else (miradorlaw01_OctetsBack.j0 k a2 a3 t209 t214 true bt219.2.1 bt219.2.2.1 bt219.2.2.2)))) else (none)) else (none)) else (none))) else (if bt210.1.toList = ([] : List UInt8) then (some (bt212.1.toList == ([] : List UInt8))) else (some false)))))) else (some false))
theorem miradorlaw01_OctetsBack.mono_l : ∀ k, (∀ y0 y1 y2 y3 y4 y5 y6 y7, LeO (miradorlaw01_OctetsBack.j0 k y0 y1 y2 y3 y4 y5 y6 y7) (miradorlaw01_OctetsBack.j0 (k + 1) y0 y1 y2 y3 y4 y5 y6 y7))
  | 0 => fun _ _ _ _ _ _ _ _ r h => by simp [miradorlaw01_OctetsBack.j0] at h
  | k + 1 => by
    have ih0 := miradorlaw01_OctetsBack.mono_l k
    · intro y0 y1 y2 y3 y4 y5 y6 y7
      unfold miradorlaw01_OctetsBack.j0
      repeat' first
      | (with_reducible exact ih0 _ _ _ _ _ _ _ _)
      | (with_reducible exact miradorlaw01_works.mono _)
      | (with_reducible exact octets_Little.mono _ _ _)
      | (with_reducible exact octets_Put.mono _ _ _)
      | (with_reducible exact octets_Signed.mono _ _)
      | (with_reducible exact LeO.refl _)
      | (with_reducible exact LeO.none _)
      | (with_reducible refine LeO.ite ?_ ?_)
      | (with_reducible refine LeO.bind ?_ (fun _ => ?_))
      | exact ih0 _ _ _ _ _ _ _ _
      | exact miradorlaw01_works.mono _
      | exact octets_Little.mono _ _ _
      | exact octets_Put.mono _ _ _
      | exact octets_Signed.mono _ _
      | exact LeO.none _
      | refine LeO.ite ?_ ?_
      | refine LeO.bind ?_ (fun _ => ?_)
theorem miradorlaw01_OctetsBack.mono : ∀ a0 a1 a2 a3 k, LeO (miradorlaw01_OctetsBack.f k a0 a1 a2 a3) (miradorlaw01_OctetsBack.f (k + 1) a0 a1 a2 a3) := by
  intro a0 a1 a2 a3 k
  have ih0 := miradorlaw01_OctetsBack.mono_l k
  unfold miradorlaw01_OctetsBack.f
  repeat' first
      | (with_reducible exact ih0 _ _ _ _ _ _ _ _)
      | (with_reducible exact miradorlaw01_works.mono _)
      | (with_reducible exact octets_Little.mono _ _ _)
      | (with_reducible exact octets_Put.mono _ _ _)
      | (with_reducible exact octets_Signed.mono _ _)
      | (with_reducible exact LeO.refl _)
      | (with_reducible exact LeO.none _)
      | (with_reducible refine LeO.ite ?_ ?_)
      | (with_reducible refine LeO.bind ?_ (fun _ => ?_))
      | exact ih0 _ _ _ _ _ _ _ _
      | exact miradorlaw01_works.mono _
      | exact octets_Little.mono _ _ _
      | exact octets_Put.mono _ _ _
      | exact octets_Signed.mono _ _
      | exact LeO.none _
      | refine LeO.ite ?_ ?_
      | refine LeO.bind ?_ (fun _ => ?_)
set_option maxHeartbeats 8000000 in
set_option maxRecDepth 100000 in
theorem miradorlaw01_OctetsBack.calls (k : Nat) (a0 : Int) (a1 : Int) (a2 : Int) (a3 : ByteArray) (r : Bool) (w : World) (h : miradorlaw01_OctetsBack.f k a0 a1 a2 a3 = some r) :
    Calls Try.prog 7 #[.int .i64 a0, .int .i64 a1, .int .i64 a2, .string a3] w fun e w' => e = .returned (.bool r) ∧ Below w.heap.size w w' := by
  have HB := Aside0.mk (Below.refl w.heap.size w)
  have H : ((miradorlaw01_works.f k).bind fun t209 => (if t209 = true then (if (a3.size : Int) > 300 then (some t209) else ((octets_Put.f k a0 a1).bind fun bt210 => ((octets_Little.f k a0 a1).bind fun bt212 => (if bt210.2 = 0 then ((octets_Signed.f k a2).bind fun t214 => (if bt210.1.size + bt212.1.size ≤ 9223372036854775807 then (if (bt210.1 ++ bt212.1).size + t214.size ≤ 9223372036854775807 then (if ((bt210.1 ++ bt212.1) ++ t214).size + a3.size ≤ 9223372036854775807 then ((octets_New.f (((bt210.1 ++ bt212.1) ++ t214) ++ a3)).bind fun bt215 => ((octets_Cursor_Int.f bt215.1 bt215.2.1 bt215.2.2 a0).bind fun bt219 => (if bt219.1 = a1 then ((octets_Cursor_Little.f bt219.2.1 bt219.2.2.1 bt219.2.2.2 a0).bind fun bt223 => (if bt223.1 = a1 then (if (bt210.1.size : Int) = a0 then (miradorlaw01_OctetsBack.j0 k a2 a3 t209 t214 ((bt212.1.size : Int) != a0) bt223.2.1 bt223.2.2.1 bt223.2.2.2) else (miradorlaw01_OctetsBack.j0 k a2 a3 t209 t214 true bt223.2.1 bt223.2.2.1 bt223.2.2.2)) else (miradorlaw01_OctetsBack.j0 k a2 a3 t209 t214 true bt223.2.1 bt223.2.2.1 bt223.2.2.2))) else (miradorlaw01_OctetsBack.j0 k a2 a3 t209 t214 true bt219.2.1 bt219.2.2.1 bt219.2.2.2)))) else (none)) else (none)) else (none))) else (if bt210.1.toList = ([] : List UInt8) then (some (bt212.1.toList == ([] : List UInt8))) else (some false)))))) else (some false))) = some r := h
  clear h
  replace H := Option.bind_eq_some_iff.mp H
  obtain ⟨t209, A50, H⟩ := H
  replace H : (if t209 = true then (if (a3.size : Int) > 300 then (some t209) else ((octets_Put.f k a0 a1).bind fun bt210 => ((octets_Little.f k a0 a1).bind fun bt212 => (if bt210.2 = 0 then ((octets_Signed.f k a2).bind fun t214 => (if bt210.1.size + bt212.1.size ≤ 9223372036854775807 then (if (bt210.1 ++ bt212.1).size + t214.size ≤ 9223372036854775807 then (if ((bt210.1 ++ bt212.1) ++ t214).size + a3.size ≤ 9223372036854775807 then ((octets_New.f (((bt210.1 ++ bt212.1) ++ t214) ++ a3)).bind fun bt215 => ((octets_Cursor_Int.f bt215.1 bt215.2.1 bt215.2.2 a0).bind fun bt219 => (if bt219.1 = a1 then ((octets_Cursor_Little.f bt219.2.1 bt219.2.2.1 bt219.2.2.2 a0).bind fun bt223 => (if bt223.1 = a1 then (if (bt210.1.size : Int) = a0 then (miradorlaw01_OctetsBack.j0 k a2 a3 t209 t214 ((bt212.1.size : Int) != a0) bt223.2.1 bt223.2.2.1 bt223.2.2.2) else (miradorlaw01_OctetsBack.j0 k a2 a3 t209 t214 true bt223.2.1 bt223.2.2.1 bt223.2.2.2)) else (miradorlaw01_OctetsBack.j0 k a2 a3 t209 t214 true bt223.2.1 bt223.2.2.1 bt223.2.2.2))) else (miradorlaw01_OctetsBack.j0 k a2 a3 t209 t214 true bt219.2.1 bt219.2.2.1 bt219.2.2.2)))) else (none)) else (none)) else (none))) else (if bt210.1.toList = ([] : List UInt8) then (some (bt212.1.toList == ([] : List UInt8))) else (some false)))))) else (some false)) = some r := H
  have A5 := Aside0.mk A50
  clear A50
  by_cases c6 : t209 = true
  · subst c6
    have H1 : (if (a3.size : Int) > 300 then (some true) else ((octets_Put.f k a0 a1).bind fun bt210 => ((octets_Little.f k a0 a1).bind fun bt212 => (if bt210.2 = 0 then ((octets_Signed.f k a2).bind fun t214 => (if bt210.1.size + bt212.1.size ≤ 9223372036854775807 then (if (bt210.1 ++ bt212.1).size + t214.size ≤ 9223372036854775807 then (if ((bt210.1 ++ bt212.1) ++ t214).size + a3.size ≤ 9223372036854775807 then ((octets_New.f (((bt210.1 ++ bt212.1) ++ t214) ++ a3)).bind fun bt215 => ((octets_Cursor_Int.f bt215.1 bt215.2.1 bt215.2.2 a0).bind fun bt219 => (if bt219.1 = a1 then ((octets_Cursor_Little.f bt219.2.1 bt219.2.2.1 bt219.2.2.2 a0).bind fun bt223 => (if bt223.1 = a1 then (if (bt210.1.size : Int) = a0 then (miradorlaw01_OctetsBack.j0 k a2 a3 true t214 ((bt212.1.size : Int) != a0) bt223.2.1 bt223.2.2.1 bt223.2.2.2) else (miradorlaw01_OctetsBack.j0 k a2 a3 true t214 true bt223.2.1 bt223.2.2.1 bt223.2.2.2)) else (miradorlaw01_OctetsBack.j0 k a2 a3 true t214 true bt223.2.1 bt223.2.2.1 bt223.2.2.2))) else (miradorlaw01_OctetsBack.j0 k a2 a3 true t214 true bt219.2.1 bt219.2.2.1 bt219.2.2.2)))) else (none)) else (none)) else (none))) else (if bt210.1.toList = ([] : List UInt8) then (some (bt212.1.toList == ([] : List UInt8))) else (some false)))))) = some r := by rw [if_pos rfl] at H; exact H
    clear H
    have H := H1
    clear H1
    by_cases c7 : (a3.size : Int) > 300
    · rw [if_pos c7] at H
      have c7b0 : decide (300 < (a3.size : Int)) = true := decide_eq_true c7
      have c7b1 : decide (300 < a3.size) = true := decide_eq_true (by omega)
      clear c7
      obtain rfl := Option.some.inj H
      go_enter Try.func7, Try.ntmps7
      go_wp2_with (first | ((with_reducible refine gate_callee (f := 8) rfl ?_); refine goesL_ (some 16) rfl rfl Try.func8 (by kernel_rfl) rfl #[] rfl (by (try simp only [List.map_toArray, List.map_cons, List.map_nil]); first | done | rfl | (simp only [List.length_drop, List.length_take]; rfl)) ?_; (with_reducible refine (miradorlaw01_works.calls k  true _ A5.out).mono ?_); rintro e w8 ⟨rfl, hb⟩; refine ⟨_, rfl, ?_⟩; have n0_ := Aside0.mk (below_step (by repeat (first | (with_reducible first | exact HB.out | apply below_alloc | apply pw_below_drewN | apply below_drew1) | exact HB.out)) hb); clear HB; have HB := n0_; clear n0_; (try clear hb); (try clear hb2); (try clear hk); (try clear hi)))
      go_ret
      exact ⟨by first | rfl | (simp [errW_none, errW_some] <;> rfl) | (simp [*, errW_none, errW_some] <;> rfl), by repeat (first | (with_reducible first | exact HB.out | apply below_alloc | apply pw_below_drewN | apply below_drew1) | exact HB.out)⟩
    · rw [if_neg c7] at H
      have c7b0 : decide (300 < (a3.size : Int)) = false := decide_eq_false c7
      have c7b1 : decide (300 < a3.size) = false := decide_eq_false (by omega)
      clear c7
      replace H := Option.bind_eq_some_iff.mp H
      obtain ⟨⟨t210, t211⟩, A90, H⟩ := H
      replace H : ((octets_Little.f k a0 a1).bind fun bt212 => (if t211 = 0 then ((octets_Signed.f k a2).bind fun t214 => (if t210.size + bt212.1.size ≤ 9223372036854775807 then (if (t210 ++ bt212.1).size + t214.size ≤ 9223372036854775807 then (if ((t210 ++ bt212.1) ++ t214).size + a3.size ≤ 9223372036854775807 then ((octets_New.f (((t210 ++ bt212.1) ++ t214) ++ a3)).bind fun bt215 => ((octets_Cursor_Int.f bt215.1 bt215.2.1 bt215.2.2 a0).bind fun bt219 => (if bt219.1 = a1 then ((octets_Cursor_Little.f bt219.2.1 bt219.2.2.1 bt219.2.2.2 a0).bind fun bt223 => (if bt223.1 = a1 then (if (t210.size : Int) = a0 then (miradorlaw01_OctetsBack.j0 k a2 a3 true t214 ((bt212.1.size : Int) != a0) bt223.2.1 bt223.2.2.1 bt223.2.2.2) else (miradorlaw01_OctetsBack.j0 k a2 a3 true t214 true bt223.2.1 bt223.2.2.1 bt223.2.2.2)) else (miradorlaw01_OctetsBack.j0 k a2 a3 true t214 true bt223.2.1 bt223.2.2.1 bt223.2.2.2))) else (miradorlaw01_OctetsBack.j0 k a2 a3 true t214 true bt219.2.1 bt219.2.2.1 bt219.2.2.2)))) else (none)) else (none)) else (none))) else (if t210.toList = ([] : List UInt8) then (some (bt212.1.toList == ([] : List UInt8))) else (some false)))) = some r := H
      have A9 := Aside0.mk A90
      clear A90
      replace H := Option.bind_eq_some_iff.mp H
      obtain ⟨⟨t212, t213⟩, A100, H⟩ := H
      replace H : (if t211 = 0 then ((octets_Signed.f k a2).bind fun t214 => (if t210.size + t212.size ≤ 9223372036854775807 then (if (t210 ++ t212).size + t214.size ≤ 9223372036854775807 then (if ((t210 ++ t212) ++ t214).size + a3.size ≤ 9223372036854775807 then ((octets_New.f (((t210 ++ t212) ++ t214) ++ a3)).bind fun bt215 => ((octets_Cursor_Int.f bt215.1 bt215.2.1 bt215.2.2 a0).bind fun bt219 => (if bt219.1 = a1 then ((octets_Cursor_Little.f bt219.2.1 bt219.2.2.1 bt219.2.2.2 a0).bind fun bt223 => (if bt223.1 = a1 then (if (t210.size : Int) = a0 then (miradorlaw01_OctetsBack.j0 k a2 a3 true t214 ((t212.size : Int) != a0) bt223.2.1 bt223.2.2.1 bt223.2.2.2) else (miradorlaw01_OctetsBack.j0 k a2 a3 true t214 true bt223.2.1 bt223.2.2.1 bt223.2.2.2)) else (miradorlaw01_OctetsBack.j0 k a2 a3 true t214 true bt223.2.1 bt223.2.2.1 bt223.2.2.2))) else (miradorlaw01_OctetsBack.j0 k a2 a3 true t214 true bt219.2.1 bt219.2.2.1 bt219.2.2.2)))) else (none)) else (none)) else (none))) else (if t210.toList = ([] : List UInt8) then (some (t212.toList == ([] : List UInt8))) else (some false))) = some r := H
      have A10 := Aside0.mk A100
      clear A100
      by_cases c11 : t211 = 0
      · rw [if_pos c11] at H
        have c11b0 : (t211 == 0) = true := beq_iff_eq.mpr c11
        have c11b1 : (t211 != 0) = false := bne_eq_false_iff_eq.mpr c11
        clear c11
        replace H := Option.bind_eq_some_iff.mp H
        obtain ⟨t214, A120, H⟩ := H
        replace H : (if t210.size + t212.size ≤ 9223372036854775807 then (if (t210 ++ t212).size + t214.size ≤ 9223372036854775807 then (if ((t210 ++ t212) ++ t214).size + a3.size ≤ 9223372036854775807 then ((octets_New.f (((t210 ++ t212) ++ t214) ++ a3)).bind fun bt215 => ((octets_Cursor_Int.f bt215.1 bt215.2.1 bt215.2.2 a0).bind fun bt219 => (if bt219.1 = a1 then ((octets_Cursor_Little.f bt219.2.1 bt219.2.2.1 bt219.2.2.2 a0).bind fun bt223 => (if bt223.1 = a1 then (if (t210.size : Int) = a0 then (miradorlaw01_OctetsBack.j0 k a2 a3 true t214 ((t212.size : Int) != a0) bt223.2.1 bt223.2.2.1 bt223.2.2.2) else (miradorlaw01_OctetsBack.j0 k a2 a3 true t214 true bt223.2.1 bt223.2.2.1 bt223.2.2.2)) else (miradorlaw01_OctetsBack.j0 k a2 a3 true t214 true bt223.2.1 bt223.2.2.1 bt223.2.2.2))) else (miradorlaw01_OctetsBack.j0 k a2 a3 true t214 true bt219.2.1 bt219.2.2.1 bt219.2.2.2)))) else (none)) else (none)) else (none)) = some r := H
        have A12 := Aside0.mk A120
        clear A120
        by_cases c13 : t210.size + t212.size ≤ 9223372036854775807
        · rw [if_pos c13] at H
          have c13b0 := eq_true c13
          have c13b1 : decide (t210.size + t212.size ≤ 9223372036854775807) = true := decide_eq_true c13
          try have c13b2 : (9223372036854775807 < t210.size + t212.size) = False := eq_false (Nat.not_lt.2 c13)
          by_cases c14 : (t210 ++ t212).size + t214.size ≤ 9223372036854775807
          · rw [if_pos c14] at H
            have c14b0 := eq_true c14
            have c14b1 : decide ((t210 ++ t212).size + t214.size ≤ 9223372036854775807) = true := decide_eq_true c14
            try have c14b2 : (9223372036854775807 < (t210 ++ t212).size + t214.size) = False := eq_false (Nat.not_lt.2 c14)
            by_cases c15 : ((t210 ++ t212) ++ t214).size + a3.size ≤ 9223372036854775807
            · rw [if_pos c15] at H
              have c15b0 := eq_true c15
              have c15b1 : decide (((t210 ++ t212) ++ t214).size + a3.size ≤ 9223372036854775807) = true := decide_eq_true c15
              try have c15b2 : (9223372036854775807 < ((t210 ++ t212) ++ t214).size + a3.size) = False := eq_false (Nat.not_lt.2 c15)
              replace H := Option.bind_eq_some_iff.mp H
              obtain ⟨⟨t215, t216, t217⟩, A160, H⟩ := H
              replace H : ((octets_Cursor_Int.f t215 t216 t217 a0).bind fun bt219 => (if bt219.1 = a1 then ((octets_Cursor_Little.f bt219.2.1 bt219.2.2.1 bt219.2.2.2 a0).bind fun bt223 => (if bt223.1 = a1 then (if (t210.size : Int) = a0 then (miradorlaw01_OctetsBack.j0 k a2 a3 true t214 ((t212.size : Int) != a0) bt223.2.1 bt223.2.2.1 bt223.2.2.2) else (miradorlaw01_OctetsBack.j0 k a2 a3 true t214 true bt223.2.1 bt223.2.2.1 bt223.2.2.2)) else (miradorlaw01_OctetsBack.j0 k a2 a3 true t214 true bt223.2.1 bt223.2.2.1 bt223.2.2.2))) else (miradorlaw01_OctetsBack.j0 k a2 a3 true t214 true bt219.2.1 bt219.2.2.1 bt219.2.2.2))) = some r := H
              have A16 := Aside0.mk A160
              clear A160
              have HC17 := Aside0.mk H
              clear H
              go_enter Try.func7, Try.ntmps7
              go_upto_region 12 with (first | ((with_reducible refine gate_callee (f := 8) rfl ?_); refine goesL_ (some 16) rfl rfl Try.func8 (by kernel_rfl) rfl #[] rfl (by (try simp only [List.map_toArray, List.map_cons, List.map_nil]); first | done | rfl | (simp only [List.length_drop, List.length_take]; rfl)) ?_; (with_reducible refine (miradorlaw01_works.calls k  true _ A5.out).mono ?_); rintro e w18 ⟨rfl, hb⟩; refine ⟨_, rfl, ?_⟩; have n0_ := Aside0.mk (below_step (by repeat (first | (with_reducible first | exact HB.out | apply below_alloc | apply pw_below_drewN | apply below_drew1) | exact HB.out)) hb); clear HB; have HB := n0_; clear n0_; (try clear hb); (try clear hb2); (try clear hk); (try clear hi)) | ((with_reducible refine gate_callee (f := 9) rfl ?_); refine goesL_ (some 26) rfl rfl Try.func9 (by kernel_rfl) rfl #[.int .i64 a0, .int .i64 a1] rfl (by (try simp only [List.map_toArray, List.map_cons, List.map_nil]); first | done | rfl | (simp only [List.length_drop, List.length_take]; rfl)) ?_; (with_reducible refine (octets_Put.calls k a0 a1 t210 t211 _ A9.out).mono ?_); rintro e w19 ⟨rfl, hb⟩; refine ⟨_, rfl, ?_⟩; have n0_ := Aside0.mk (below_step (by repeat (first | (with_reducible first | exact HB.out | apply below_alloc | apply pw_below_drewN | apply below_drew1) | exact HB.out)) hb); clear HB; have HB := n0_; clear n0_; (try clear hb); (try clear hb2); (try clear hk); (try clear hi)) | ((with_reducible refine gate_callee (f := 11) rfl ?_); refine goesL_ (some 32) rfl rfl Try.func11 (by kernel_rfl) rfl #[.int .i64 a0, .int .i64 a1] rfl (by (try simp only [List.map_toArray, List.map_cons, List.map_nil]); first | done | rfl | (simp only [List.length_drop, List.length_take]; rfl)) ?_; (with_reducible refine (octets_Little.calls k a0 a1 t212 t213 _ A10.out).mono ?_); rintro e w20 ⟨rfl, hb⟩; refine ⟨_, rfl, ?_⟩; have n0_ := Aside0.mk (below_step (by repeat (first | (with_reducible first | exact HB.out | apply below_alloc | apply pw_below_drewN | apply below_drew1) | exact HB.out)) hb); clear HB; have HB := n0_; clear n0_; (try clear hb); (try clear hb2); (try clear hk); (try clear hi)) | ((with_reducible refine gate_callee (f := 13) rfl ?_); refine goesL_ (some 47) rfl rfl Try.func13 (by kernel_rfl) rfl #[.int .i64 a2] rfl (by (try simp only [List.map_toArray, List.map_cons, List.map_nil]); first | done | rfl | (simp only [List.length_drop, List.length_take]; rfl)) ?_; (with_reducible refine (octets_Signed.calls k a2 t214 _ A12.out).mono ?_); rintro e w21 ⟨rfl, hb⟩; refine ⟨_, rfl, ?_⟩; have n0_ := Aside0.mk (below_step (by repeat (first | (with_reducible first | exact HB.out | apply below_alloc | apply pw_below_drewN | apply below_drew1) | exact HB.out)) hb); clear HB; have HB := n0_; clear n0_; (try clear hb); (try clear hb2); (try clear hk); (try clear hi)) | ((with_reducible refine gate_callee (f := 15) rfl ?_); refine goesL_ (some 55) rfl rfl Try.func15 (by kernel_rfl) rfl #[.string (((t210 ++ t212) ++ t214) ++ a3)] rfl (by (try simp only [List.map_toArray, List.map_cons, List.map_nil]); first | done | rfl | (simp only [List.length_drop, List.length_take]; rfl)) ?_; (with_reducible refine (octets_New.calls (((t210 ++ t212) ++ t214) ++ a3) t215 t216 t217 w _ ?side1 A16.out).mono ?_); (case side1 => repeat (first | (with_reducible first | exact HB.out | apply below_alloc | apply pw_below_drewN | apply below_drew1) | exact HB.out)); rintro e w22 ⟨g218, rfl, hi, hb, hb2⟩; refine ⟨_, rfl, ?_⟩; have n0_ := Aside0.mk (hb); have n1_ := Aside0.mk (hi); clear HB; have HB := n0_; have HI218 := n1_; clear n0_ n1_; (try clear hb); (try clear hb2); (try clear hk); (try clear hi)))
              (try simp only [Act.put, List.setIfInBounds_toArray, List.set_cons_zero, List.set_cons_succ])
              go_cut [79] (fun v79 wc => ∃ (kq : Nat) (x79_16 : Bool) (x219000_16 : ByteArray) (x219001_16 : Int) (x219002_16 : Int), v79 = .bool x79_16 ∧ Aside0 (miradorlaw01_OctetsBack.j0 kq a2 a3 true t214 x79_16 x219000_16 x219001_16 x219002_16 = some r) ∧ Aside0 (kq ≤ k) ∧ Aside0 (IsS46 w wc g218 x219000_16 x219001_16 x219002_16) ∧ Aside0 (Below w.heap.size w wc))
              case first =>
                have H := HC17.out
                clear HC17
                replace H := Option.bind_eq_some_iff.mp H
                obtain ⟨⟨t219, t220, t221, t222⟩, A230, H⟩ := H
                replace H : (if t219 = a1 then ((octets_Cursor_Little.f t220 t221 t222 a0).bind fun bt223 => (if bt223.1 = a1 then (if (t210.size : Int) = a0 then (miradorlaw01_OctetsBack.j0 k a2 a3 true t214 ((t212.size : Int) != a0) bt223.2.1 bt223.2.2.1 bt223.2.2.2) else (miradorlaw01_OctetsBack.j0 k a2 a3 true t214 true bt223.2.1 bt223.2.2.1 bt223.2.2.2)) else (miradorlaw01_OctetsBack.j0 k a2 a3 true t214 true bt223.2.1 bt223.2.2.1 bt223.2.2.2))) else (miradorlaw01_OctetsBack.j0 k a2 a3 true t214 true t220 t221 t222)) = some r := H
                have A23 := Aside0.mk A230
                clear A230
                by_cases c24 : t219 = a1
                · rw [if_pos c24] at H
                  have c24b0 : (t219 == a1) = true := beq_iff_eq.mpr c24
                  have c24b1 : (t219 != a1) = false := bne_eq_false_iff_eq.mpr c24
                  clear c24
                  (first | rw [c24b0] | (simp only [i64_w, i32_w]; rw [c24b0]) | skip)
                  replace H := Option.bind_eq_some_iff.mp H
                  obtain ⟨⟨t223, t224, t225, t226⟩, A250, H⟩ := H
                  replace H : (if t223 = a1 then (if (t210.size : Int) = a0 then (miradorlaw01_OctetsBack.j0 k a2 a3 true t214 ((t212.size : Int) != a0) t224 t225 t226) else (miradorlaw01_OctetsBack.j0 k a2 a3 true t214 true t224 t225 t226)) else (miradorlaw01_OctetsBack.j0 k a2 a3 true t214 true t224 t225 t226)) = some r := H
                  have A25 := Aside0.mk A250
                  clear A250
                  by_cases c26 : t223 = a1
                  · rw [if_pos c26] at H
                    have c26b0 : (t223 == a1) = true := beq_iff_eq.mpr c26
                    have c26b1 : (t223 != a1) = false := bne_eq_false_iff_eq.mpr c26
                    clear c26
                    by_cases c27 : (t210.size : Int) = a0
                    · rw [if_pos c27] at H
                      have c27b0 : ((t210.size : Int) == a0) = true := beq_iff_eq.mpr c27
                      have c27b1 : ((t210.size : Int) != a0) = false := bne_eq_false_iff_eq.mpr c27
                      clear c27
                      have H' := Aside0.mk H
                      clear H
                      go_wp2_with (first | ((with_reducible refine gate_callee (f := 20) rfl ?_); refine goesL_ (some 58) rfl rfl Try.func20 (by kernel_rfl) rfl #[.pointer (some ⟨g218, 0, none⟩), .int .i64 a0] rfl (by (try simp only [List.map_toArray, List.map_cons, List.map_nil]); first | done | rfl | (simp only [List.length_drop, List.length_take]; rfl)) ?_; (with_reducible refine (octets_Cursor_Int.calls g218 t215 t216 t217 a0 t219 t220 t221 t222 w _ ?side1 ?side2 A23.out).mono ?_); (case side1 => repeat (first | (with_reducible first | exact HI218.out | apply IsS46.alloc | apply IsS46.drewN | apply IsS46.drew | apply IsS46.set_0 | apply IsS46.set_1 | apply IsS46.set_2) | exact HI218.out)); (case side2 => repeat (first | (with_reducible first | exact HB.out | apply below_alloc | apply pw_below_drewN | apply below_drew1 | refine below_set ?_ (IsS46.ge HI218.out)) | exact HB.out)); rintro e w28 ⟨rfl, hi, hb, hk⟩; refine ⟨_, rfl, ?_⟩; have n0_ := Aside0.mk (hb); have n1_ := Aside0.mk (hi); clear HB; clear HI218; have HB := n0_; have HI218 := n1_; clear n0_ n1_; (try clear hb); (try clear hb2); (try clear hk); (try clear hi)) | (go_at_call 23; (with_reducible refine (octets_Cursor_Little.calls g218 t220 t221 t222 a0 t223 t224 t225 t226 w _ ?side1 ?side2 A25.out).mono ?_); (case side1 => repeat (first | (with_reducible first | exact HI218.out | apply IsS46.alloc | apply IsS46.drewN | apply IsS46.drew | apply IsS46.set_0 | apply IsS46.set_1 | apply IsS46.set_2) | exact HI218.out)); (case side2 => repeat (first | (with_reducible first | exact HB.out | apply below_alloc | apply pw_below_drewN | apply below_drew1 | refine below_set ?_ (IsS46.ge HI218.out)) | exact HB.out)); rintro e w29 ⟨rfl, hi, hb, hk⟩; have n0_ := Aside0.mk (hb); have n1_ := Aside0.mk (hi); clear HB; clear HI218; have HB := n0_; have HI218 := n1_; clear n0_ n1_; (try clear hb); (try clear hb2); (try clear hk); (try clear hi)))
                      go_meet
                      case rel => exact ⟨_, (((t212.size : Int) != a0)), (t224), (t225), (t226), (by first | rfl | (simp; done) | (simp [*]; done)), H', ⟨by first | omega | exact Nat.le_refl _⟩, ⟨by repeat (first | (with_reducible first | exact HI218.out | apply IsS46.alloc | apply IsS46.drewN | apply IsS46.drew | apply IsS46.set_0 | apply IsS46.set_1 | apply IsS46.set_2) | exact HI218.out)⟩, ⟨by repeat (first | (with_reducible first | exact HB.out | apply below_alloc | apply pw_below_drewN | apply below_drew1 | refine below_set ?_ (IsS46.ge HI218.out)) | exact HB.out)⟩⟩
                    · rw [if_neg c27] at H
                      have c27b0 : ((t210.size : Int) == a0) = false := beq_eq_false_iff_ne.mpr c27
                      have c27b1 : ((t210.size : Int) != a0) = true := bne_iff_ne.mpr c27
                      have H' := Aside0.mk H
                      clear H
                      go_wp2_with (first | ((with_reducible refine gate_callee (f := 20) rfl ?_); refine goesL_ (some 58) rfl rfl Try.func20 (by kernel_rfl) rfl #[.pointer (some ⟨g218, 0, none⟩), .int .i64 a0] rfl (by (try simp only [List.map_toArray, List.map_cons, List.map_nil]); first | done | rfl | (simp only [List.length_drop, List.length_take]; rfl)) ?_; (with_reducible refine (octets_Cursor_Int.calls g218 t215 t216 t217 a0 t219 t220 t221 t222 w _ ?side1 ?side2 A23.out).mono ?_); (case side1 => repeat (first | (with_reducible first | exact HI218.out | apply IsS46.alloc | apply IsS46.drewN | apply IsS46.drew | apply IsS46.set_0 | apply IsS46.set_1 | apply IsS46.set_2) | exact HI218.out)); (case side2 => repeat (first | (with_reducible first | exact HB.out | apply below_alloc | apply pw_below_drewN | apply below_drew1 | refine below_set ?_ (IsS46.ge HI218.out)) | exact HB.out)); rintro e w30 ⟨rfl, hi, hb, hk⟩; refine ⟨_, rfl, ?_⟩; have n0_ := Aside0.mk (hb); have n1_ := Aside0.mk (hi); clear HB; clear HI218; have HB := n0_; have HI218 := n1_; clear n0_ n1_; (try clear hb); (try clear hb2); (try clear hk); (try clear hi)) | (go_at_call 23; (with_reducible refine (octets_Cursor_Little.calls g218 t220 t221 t222 a0 t223 t224 t225 t226 w _ ?side1 ?side2 A25.out).mono ?_); (case side1 => repeat (first | (with_reducible first | exact HI218.out | apply IsS46.alloc | apply IsS46.drewN | apply IsS46.drew | apply IsS46.set_0 | apply IsS46.set_1 | apply IsS46.set_2) | exact HI218.out)); (case side2 => repeat (first | (with_reducible first | exact HB.out | apply below_alloc | apply pw_below_drewN | apply below_drew1 | refine below_set ?_ (IsS46.ge HI218.out)) | exact HB.out)); rintro e w31 ⟨rfl, hi, hb, hk⟩; have n0_ := Aside0.mk (hb); have n1_ := Aside0.mk (hi); clear HB; clear HI218; have HB := n0_; have HI218 := n1_; clear n0_ n1_; (try clear hb); (try clear hb2); (try clear hk); (try clear hi)))
                      go_meet
                      case rel => exact ⟨_, (true), (t224), (t225), (t226), (by first | rfl | (simp; done) | (simp [*]; done)), H', ⟨by first | omega | exact Nat.le_refl _⟩, ⟨by repeat (first | (with_reducible first | exact HI218.out | apply IsS46.alloc | apply IsS46.drewN | apply IsS46.drew | apply IsS46.set_0 | apply IsS46.set_1 | apply IsS46.set_2) | exact HI218.out)⟩, ⟨by repeat (first | (with_reducible first | exact HB.out | apply below_alloc | apply pw_below_drewN | apply below_drew1 | refine below_set ?_ (IsS46.ge HI218.out)) | exact HB.out)⟩⟩
                  · rw [if_neg c26] at H
                    have c26b0 : (t223 == a1) = false := beq_eq_false_iff_ne.mpr c26
                    have c26b1 : (t223 != a1) = true := bne_iff_ne.mpr c26
                    have H' := Aside0.mk H
                    clear H
                    go_wp2_with (first | ((with_reducible refine gate_callee (f := 20) rfl ?_); refine goesL_ (some 58) rfl rfl Try.func20 (by kernel_rfl) rfl #[.pointer (some ⟨g218, 0, none⟩), .int .i64 a0] rfl (by (try simp only [List.map_toArray, List.map_cons, List.map_nil]); first | done | rfl | (simp only [List.length_drop, List.length_take]; rfl)) ?_; (with_reducible refine (octets_Cursor_Int.calls g218 t215 t216 t217 a0 t219 t220 t221 t222 w _ ?side1 ?side2 A23.out).mono ?_); (case side1 => repeat (first | (with_reducible first | exact HI218.out | apply IsS46.alloc | apply IsS46.drewN | apply IsS46.drew | apply IsS46.set_0 | apply IsS46.set_1 | apply IsS46.set_2) | exact HI218.out)); (case side2 => repeat (first | (with_reducible first | exact HB.out | apply below_alloc | apply pw_below_drewN | apply below_drew1 | refine below_set ?_ (IsS46.ge HI218.out)) | exact HB.out)); rintro e w32 ⟨rfl, hi, hb, hk⟩; refine ⟨_, rfl, ?_⟩; have n0_ := Aside0.mk (hb); have n1_ := Aside0.mk (hi); clear HB; clear HI218; have HB := n0_; have HI218 := n1_; clear n0_ n1_; (try clear hb); (try clear hb2); (try clear hk); (try clear hi)) | (go_at_call 23; (with_reducible refine (octets_Cursor_Little.calls g218 t220 t221 t222 a0 t223 t224 t225 t226 w _ ?side1 ?side2 A25.out).mono ?_); (case side1 => repeat (first | (with_reducible first | exact HI218.out | apply IsS46.alloc | apply IsS46.drewN | apply IsS46.drew | apply IsS46.set_0 | apply IsS46.set_1 | apply IsS46.set_2) | exact HI218.out)); (case side2 => repeat (first | (with_reducible first | exact HB.out | apply below_alloc | apply pw_below_drewN | apply below_drew1 | refine below_set ?_ (IsS46.ge HI218.out)) | exact HB.out)); rintro e w33 ⟨rfl, hi, hb, hk⟩; have n0_ := Aside0.mk (hb); have n1_ := Aside0.mk (hi); clear HB; clear HI218; have HB := n0_; have HI218 := n1_; clear n0_ n1_; (try clear hb); (try clear hb2); (try clear hk); (try clear hi)))
                    go_meet
                    case rel => exact ⟨_, (true), (t224), (t225), (t226), (by first | rfl | (simp; done) | (simp [*]; done)), H', ⟨by first | omega | exact Nat.le_refl _⟩, ⟨by repeat (first | (with_reducible first | exact HI218.out | apply IsS46.alloc | apply IsS46.drewN | apply IsS46.drew | apply IsS46.set_0 | apply IsS46.set_1 | apply IsS46.set_2) | exact HI218.out)⟩, ⟨by repeat (first | (with_reducible first | exact HB.out | apply below_alloc | apply pw_below_drewN | apply below_drew1 | refine below_set ?_ (IsS46.ge HI218.out)) | exact HB.out)⟩⟩
                · rw [if_neg c24] at H
                  have c24b0 : (t219 == a1) = false := beq_eq_false_iff_ne.mpr c24
                  have c24b1 : (t219 != a1) = true := bne_iff_ne.mpr c24
                  (first | rw [c24b0] | (simp only [i64_w, i32_w]; rw [c24b0]) | skip)
                  have H' := Aside0.mk H
                  clear H
                  go_wp2_with (first | ((with_reducible refine gate_callee (f := 20) rfl ?_); refine goesL_ (some 58) rfl rfl Try.func20 (by kernel_rfl) rfl #[.pointer (some ⟨g218, 0, none⟩), .int .i64 a0] rfl (by (try simp only [List.map_toArray, List.map_cons, List.map_nil]); first | done | rfl | (simp only [List.length_drop, List.length_take]; rfl)) ?_; (with_reducible refine (octets_Cursor_Int.calls g218 t215 t216 t217 a0 t219 t220 t221 t222 w _ ?side1 ?side2 A23.out).mono ?_); (case side1 => repeat (first | (with_reducible first | exact HI218.out | apply IsS46.alloc | apply IsS46.drewN | apply IsS46.drew | apply IsS46.set_0 | apply IsS46.set_1 | apply IsS46.set_2) | exact HI218.out)); (case side2 => repeat (first | (with_reducible first | exact HB.out | apply below_alloc | apply pw_below_drewN | apply below_drew1 | refine below_set ?_ (IsS46.ge HI218.out)) | exact HB.out)); rintro e w34 ⟨rfl, hi, hb, hk⟩; refine ⟨_, rfl, ?_⟩; have n0_ := Aside0.mk (hb); have n1_ := Aside0.mk (hi); clear HB; clear HI218; have HB := n0_; have HI218 := n1_; clear n0_ n1_; (try clear hb); (try clear hb2); (try clear hk); (try clear hi)))
                  go_meet
                  case rel => exact ⟨_, (true), (t220), (t221), (t222), (by first | rfl | (simp; done) | (simp [*]; done)), H', ⟨by first | omega | exact Nat.le_refl _⟩, ⟨by repeat (first | (with_reducible first | exact HI218.out | apply IsS46.alloc | apply IsS46.drewN | apply IsS46.drew | apply IsS46.set_0 | apply IsS46.set_1 | apply IsS46.set_2) | exact HI218.out)⟩, ⟨by repeat (first | (with_reducible first | exact HB.out | apply below_alloc | apply pw_below_drewN | apply below_drew1 | refine below_set ?_ (IsS46.ge HI218.out)) | exact HB.out)⟩⟩
              case rest =>
                clear HC17
                try clear c1
                try clear c2
                try clear p2
                try clear c6
                try clear c7
                try clear c7b0
                try clear c7b1
                try clear c8
                try clear c9
                try clear c11
                try clear c11b0
                try clear c11b1
                try clear c13
                try clear c13b0
                try clear c13b1
                try clear c13b2
                try clear c14
                try clear c14b0
                try clear c14b1
                try clear c14b2
                try clear c15
                try clear c15b0
                try clear c15b1
                try clear c15b2
                try clear c20
                try clear c24
                try clear c24b0
                try clear c24b1
                try clear c26
                try clear c26b0
                try clear c26b1
                try clear c27
                try clear c27b0
                try clear c27b1
                obtain ⟨kq, x79_16, x219000_16, x219001_16, x219002_16, rfl, HA, HJ16, HI218, HB⟩ := hcut
                cases kq with
                | zero => exact absurd HA.out (by simp [miradorlaw01_OctetsBack.j0])
                | succ kj16 =>
                  have H := HA.out
                  clear HA
                  simp only [miradorlaw01_OctetsBack.j0] at H
                  by_cases c35 : x79_16 = true
                  · subst c35
                    have H1 : (some false) = some r := by rw [if_pos rfl] at H; exact H
                    clear H
                    have H := H1
                    clear H1
                    obtain rfl := Option.some.inj H
                    go_wp2
                    go_ret
                    exact ⟨by first | rfl | (simp [errW_none, errW_some] <;> rfl) | (simp [*, errW_none, errW_some] <;> rfl), by repeat (first | (with_reducible first | exact HB.out | apply below_alloc | apply pw_below_drewN | apply below_drew1 | refine below_set ?_ (IsS46.ge HI218.out)) | exact HB.out)⟩
                  · replace c35 := Bool.eq_false_iff.mpr c35
                    subst c35
                    have H1 : (if t214.toList = ([] : List UInt8) then (if true = true then ((octets_Cursor_Left.f x219000_16 x219001_16 x219002_16).bind fun bt227 => (if bt227.1 = (a3.size : Int) then ((octets_Cursor_Err.f bt227.2.1 bt227.2.2.1 bt227.2.2.2).bind fun bt231 => (some (bt231.1 == 0))) else (some false))) else (some false)) else (if true = true then ((octets_Cursor_Signed.f x219000_16 x219001_16 x219002_16).bind fun bt235 => (if bt235.1 = a2 then ((octets_Cursor_Bytes.f bt235.2.1 bt235.2.2.1 bt235.2.2.2 (a3.size : Int)).bind fun bt239 => (if bt239.1.toList = a3.toList then ((octets_Cursor_End.f bt239.2.1 bt239.2.2.1 bt239.2.2.2).bind fun bt243 => (if bt243.1 = 0 then (some ((t214.size : Int) == 4)) else (some false))) else (some false))) else (some false))) else (some false))) = some r := by rw [if_neg (show ¬ (false = true) by decide)] at H; exact H
                    clear H
                    have H := H1
                    clear H1
                    by_cases c36 : t214.toList = ([] : List UInt8)
                    · rw [if_pos c36] at H
                      have c36b0 : (t214.toList == ([] : List UInt8)) = true := beq_iff_eq.mpr c36
                      have c36b1 : (t214.toList != ([] : List UInt8)) = false := bne_eq_false_iff_eq.mpr c36
                      clear c36
                      have H1 : ((octets_Cursor_Left.f x219000_16 x219001_16 x219002_16).bind fun bt227 => (if bt227.1 = (a3.size : Int) then ((octets_Cursor_Err.f bt227.2.1 bt227.2.2.1 bt227.2.2.2).bind fun bt231 => (some (bt231.1 == 0))) else (some false))) = some r := by rw [if_pos rfl] at H; exact H
                      clear H
                      have H := H1
                      clear H1
                      replace H := Option.bind_eq_some_iff.mp H
                      obtain ⟨⟨t227, t228, t229, t230⟩, A370, H⟩ := H
                      replace H : (if t227 = (a3.size : Int) then ((octets_Cursor_Err.f t228 t229 t230).bind fun bt231 => (some (bt231.1 == 0))) else (some false)) = some r := H
                      have A37 := Aside0.mk A370
                      clear A370
                      by_cases c38 : t227 = (a3.size : Int)
                      · rw [if_pos c38] at H
                        have c38b0 : (t227 == (a3.size : Int)) = true := beq_iff_eq.mpr c38
                        have c38b1 : (t227 != (a3.size : Int)) = false := bne_eq_false_iff_eq.mpr c38
                        clear c38
                        replace H := Option.bind_eq_some_iff.mp H
                        obtain ⟨⟨t231, t232, t233, t234⟩, A390, H⟩ := H
                        replace H : (some (t231 == 0)) = some r := H
                        have A39 := Aside0.mk A390
                        clear A390
                        obtain rfl := Option.some.inj H
                        go_wp2_with (first | (go_at_call 27; (with_reducible refine (octets_Cursor_Left.calls g218 x219000_16 x219001_16 x219002_16 t227 t228 t229 t230 w _ ?side1 ?side2 A37.out).mono ?_); (case side1 => repeat (first | (with_reducible first | exact HI218.out | apply IsS46.alloc | apply IsS46.drewN | apply IsS46.drew | apply IsS46.set_0 | apply IsS46.set_1 | apply IsS46.set_2) | exact HI218.out)); (case side2 => repeat (first | (with_reducible first | exact HB.out | apply below_alloc | apply pw_below_drewN | apply below_drew1 | refine below_set ?_ (IsS46.ge HI218.out)) | exact HB.out)); rintro e w40 ⟨rfl, hi, hb, hk⟩; have n0_ := Aside0.mk (hb); have n1_ := Aside0.mk (hi); clear HB; clear HI218; have HB := n0_; have HI218 := n1_; clear n0_ n1_; (try clear hb); (try clear hb2); (try clear hk); (try clear hi)) | (go_at_call 19; (with_reducible refine (octets_Cursor_Err.calls g218 t228 t229 t230 t231 t232 t233 t234 w _ ?side1 ?side2 A39.out).mono ?_); (case side1 => repeat (first | (with_reducible first | exact HI218.out | apply IsS46.alloc | apply IsS46.drewN | apply IsS46.drew | apply IsS46.set_0 | apply IsS46.set_1 | apply IsS46.set_2) | exact HI218.out)); (case side2 => repeat (first | (with_reducible first | exact HB.out | apply below_alloc | apply pw_below_drewN | apply below_drew1 | refine below_set ?_ (IsS46.ge HI218.out)) | exact HB.out)); rintro e w41 ⟨rfl, hi, hb, hk⟩; have n0_ := Aside0.mk (hb); have n1_ := Aside0.mk (hi); clear HB; clear HI218; have HB := n0_; have HI218 := n1_; clear n0_ n1_; (try clear hb); (try clear hb2); (try clear hk); (try clear hi)))
                        go_ret
                        exact ⟨by first | rfl | (simp [errW_none, errW_some] <;> rfl) | (simp [*, errW_none, errW_some] <;> rfl), by repeat (first | (with_reducible first | exact HB.out | apply below_alloc | apply pw_below_drewN | apply below_drew1 | refine below_set ?_ (IsS46.ge HI218.out)) | exact HB.out)⟩
                      · rw [if_neg c38] at H
                        have c38b0 : (t227 == (a3.size : Int)) = false := beq_eq_false_iff_ne.mpr c38
                        have c38b1 : (t227 != (a3.size : Int)) = true := bne_iff_ne.mpr c38
                        obtain rfl := Option.some.inj H
                        go_wp2_with (first | (go_at_call 27; (with_reducible refine (octets_Cursor_Left.calls g218 x219000_16 x219001_16 x219002_16 t227 t228 t229 t230 w _ ?side1 ?side2 A37.out).mono ?_); (case side1 => repeat (first | (with_reducible first | exact HI218.out | apply IsS46.alloc | apply IsS46.drewN | apply IsS46.drew | apply IsS46.set_0 | apply IsS46.set_1 | apply IsS46.set_2) | exact HI218.out)); (case side2 => repeat (first | (with_reducible first | exact HB.out | apply below_alloc | apply pw_below_drewN | apply below_drew1 | refine below_set ?_ (IsS46.ge HI218.out)) | exact HB.out)); rintro e w42 ⟨rfl, hi, hb, hk⟩; have n0_ := Aside0.mk (hb); have n1_ := Aside0.mk (hi); clear HB; clear HI218; have HB := n0_; have HI218 := n1_; clear n0_ n1_; (try clear hb); (try clear hb2); (try clear hk); (try clear hi)))
                        go_ret
                        exact ⟨by first | rfl | (simp [errW_none, errW_some] <;> rfl) | (simp [*, errW_none, errW_some] <;> rfl), by repeat (first | (with_reducible first | exact HB.out | apply below_alloc | apply pw_below_drewN | apply below_drew1 | refine below_set ?_ (IsS46.ge HI218.out)) | exact HB.out)⟩
                    · rw [if_neg c36] at H
                      have c36b0 : (t214.toList == ([] : List UInt8)) = false := beq_eq_false_iff_ne.mpr c36
                      have c36b1 : (t214.toList != ([] : List UInt8)) = true := bne_iff_ne.mpr c36
                      have H1 : ((octets_Cursor_Signed.f x219000_16 x219001_16 x219002_16).bind fun bt235 => (if bt235.1 = a2 then ((octets_Cursor_Bytes.f bt235.2.1 bt235.2.2.1 bt235.2.2.2 (a3.size : Int)).bind fun bt239 => (if bt239.1.toList = a3.toList then ((octets_Cursor_End.f bt239.2.1 bt239.2.2.1 bt239.2.2.2).bind fun bt243 => (if bt243.1 = 0 then (some ((t214.size : Int) == 4)) else (some false))) else (some false))) else (some false))) = some r := by rw [if_pos rfl] at H; exact H
                      clear H
                      have H := H1
                      clear H1
                      replace H := Option.bind_eq_some_iff.mp H
                      obtain ⟨⟨t235, t236, t237, t238⟩, A430, H⟩ := H
                      replace H : (if t235 = a2 then ((octets_Cursor_Bytes.f t236 t237 t238 (a3.size : Int)).bind fun bt239 => (if bt239.1.toList = a3.toList then ((octets_Cursor_End.f bt239.2.1 bt239.2.2.1 bt239.2.2.2).bind fun bt243 => (if bt243.1 = 0 then (some ((t214.size : Int) == 4)) else (some false))) else (some false))) else (some false)) = some r := H
                      have A43 := Aside0.mk A430
                      clear A430
                      by_cases c44 : t235 = a2
                      · rw [if_pos c44] at H
                        have c44b0 : (t235 == a2) = true := beq_iff_eq.mpr c44
                        have c44b1 : (t235 != a2) = false := bne_eq_false_iff_eq.mpr c44
                        clear c44
                        replace H := Option.bind_eq_some_iff.mp H
                        obtain ⟨⟨t239, t240, t241, t242⟩, A450, H⟩ := H
                        replace H : (if t239.toList = a3.toList then ((octets_Cursor_End.f t240 t241 t242).bind fun bt243 => (if bt243.1 = 0 then (some ((t214.size : Int) == 4)) else (some false))) else (some false)) = some r := H
                        have A45 := Aside0.mk A450
                        clear A450
                        by_cases c46 : t239.toList = a3.toList
                        · rw [if_pos c46] at H
                          have c46b0 : (t239.toList == a3.toList) = true := beq_iff_eq.mpr c46
                          have c46b1 : (t239.toList != a3.toList) = false := bne_eq_false_iff_eq.mpr c46
                          clear c46
                          replace H := Option.bind_eq_some_iff.mp H
                          obtain ⟨⟨t243, t244, t245, t246⟩, A470, H⟩ := H
                          replace H : (if t243 = 0 then (some ((t214.size : Int) == 4)) else (some false)) = some r := H
                          have A47 := Aside0.mk A470
                          clear A470
                          by_cases c48 : t243 = 0
                          · rw [if_pos c48] at H
                            have c48b0 : (t243 == 0) = true := beq_iff_eq.mpr c48
                            have c48b1 : (t243 != 0) = false := bne_eq_false_iff_eq.mpr c48
                            clear c48
                            obtain rfl := Option.some.inj H
                            go_wp2_with (first | (go_at_call 21; (with_reducible refine (octets_Cursor_Signed.calls g218 x219000_16 x219001_16 x219002_16 t235 t236 t237 t238 w _ ?side1 ?side2 A43.out).mono ?_); (case side1 => repeat (first | (with_reducible first | exact HI218.out | apply IsS46.alloc | apply IsS46.drewN | apply IsS46.drew | apply IsS46.set_0 | apply IsS46.set_1 | apply IsS46.set_2) | exact HI218.out)); (case side2 => repeat (first | (with_reducible first | exact HB.out | apply below_alloc | apply pw_below_drewN | apply below_drew1 | refine below_set ?_ (IsS46.ge HI218.out)) | exact HB.out)); rintro e w49 ⟨rfl, hi, hb, hk⟩; have n0_ := Aside0.mk (hb); have n1_ := Aside0.mk (hi); clear HB; clear HI218; have HB := n0_; have HI218 := n1_; clear n0_ n1_; (try clear hb); (try clear hb2); (try clear hk); (try clear hi)) | (go_at_call 16; (with_reducible refine (octets_Cursor_Bytes.calls g218 t236 t237 t238 (a3.size : Int) t239 t240 t241 t242 w _ ?side1 ?side2 A45.out).mono ?_); (case side1 => repeat (first | (with_reducible first | exact HI218.out | apply IsS46.alloc | apply IsS46.drewN | apply IsS46.drew | apply IsS46.set_0 | apply IsS46.set_1 | apply IsS46.set_2) | exact HI218.out)); (case side2 => repeat (first | (with_reducible first | exact HB.out | apply below_alloc | apply pw_below_drewN | apply below_drew1 | refine below_set ?_ (IsS46.ge HI218.out)) | exact HB.out)); rintro e w50 ⟨rfl, hi, hb, hk⟩; have n0_ := Aside0.mk (hb); have n1_ := Aside0.mk (hi); clear HB; clear HI218; have HB := n0_; have HI218 := n1_; clear n0_ n1_; (try clear hb); (try clear hb2); (try clear hk); (try clear hi)) | (go_at_call 18; (with_reducible refine (octets_Cursor_End.calls g218 t240 t241 t242 t243 t244 t245 t246 w _ ?side1 ?side2 A47.out).mono ?_); (case side1 => repeat (first | (with_reducible first | exact HI218.out | apply IsS46.alloc | apply IsS46.drewN | apply IsS46.drew | apply IsS46.set_0 | apply IsS46.set_1 | apply IsS46.set_2) | exact HI218.out)); (case side2 => repeat (first | (with_reducible first | exact HB.out | apply below_alloc | apply pw_below_drewN | apply below_drew1 | refine below_set ?_ (IsS46.ge HI218.out)) | exact HB.out)); rintro e w51 ⟨rfl, hi, hb, hk⟩; have n0_ := Aside0.mk (hb); have n1_ := Aside0.mk (hi); clear HB; clear HI218; have HB := n0_; have HI218 := n1_; clear n0_ n1_; (try clear hb); (try clear hb2); (try clear hk); (try clear hi)))
                            go_ret
                            exact ⟨by first | rfl | (simp [errW_none, errW_some] <;> rfl) | (simp [*, errW_none, errW_some] <;> rfl), by repeat (first | (with_reducible first | exact HB.out | apply below_alloc | apply pw_below_drewN | apply below_drew1 | refine below_set ?_ (IsS46.ge HI218.out)) | exact HB.out)⟩
                          · rw [if_neg c48] at H
                            have c48b0 : (t243 == 0) = false := beq_eq_false_iff_ne.mpr c48
                            have c48b1 : (t243 != 0) = true := bne_iff_ne.mpr c48
                            obtain rfl := Option.some.inj H
                            go_wp2_with (first | (go_at_call 21; (with_reducible refine (octets_Cursor_Signed.calls g218 x219000_16 x219001_16 x219002_16 t235 t236 t237 t238 w _ ?side1 ?side2 A43.out).mono ?_); (case side1 => repeat (first | (with_reducible first | exact HI218.out | apply IsS46.alloc | apply IsS46.drewN | apply IsS46.drew | apply IsS46.set_0 | apply IsS46.set_1 | apply IsS46.set_2) | exact HI218.out)); (case side2 => repeat (first | (with_reducible first | exact HB.out | apply below_alloc | apply pw_below_drewN | apply below_drew1 | refine below_set ?_ (IsS46.ge HI218.out)) | exact HB.out)); rintro e w52 ⟨rfl, hi, hb, hk⟩; have n0_ := Aside0.mk (hb); have n1_ := Aside0.mk (hi); clear HB; clear HI218; have HB := n0_; have HI218 := n1_; clear n0_ n1_; (try clear hb); (try clear hb2); (try clear hk); (try clear hi)) | (go_at_call 16; (with_reducible refine (octets_Cursor_Bytes.calls g218 t236 t237 t238 (a3.size : Int) t239 t240 t241 t242 w _ ?side1 ?side2 A45.out).mono ?_); (case side1 => repeat (first | (with_reducible first | exact HI218.out | apply IsS46.alloc | apply IsS46.drewN | apply IsS46.drew | apply IsS46.set_0 | apply IsS46.set_1 | apply IsS46.set_2) | exact HI218.out)); (case side2 => repeat (first | (with_reducible first | exact HB.out | apply below_alloc | apply pw_below_drewN | apply below_drew1 | refine below_set ?_ (IsS46.ge HI218.out)) | exact HB.out)); rintro e w53 ⟨rfl, hi, hb, hk⟩; have n0_ := Aside0.mk (hb); have n1_ := Aside0.mk (hi); clear HB; clear HI218; have HB := n0_; have HI218 := n1_; clear n0_ n1_; (try clear hb); (try clear hb2); (try clear hk); (try clear hi)) | (go_at_call 18; (with_reducible refine (octets_Cursor_End.calls g218 t240 t241 t242 t243 t244 t245 t246 w _ ?side1 ?side2 A47.out).mono ?_); (case side1 => repeat (first | (with_reducible first | exact HI218.out | apply IsS46.alloc | apply IsS46.drewN | apply IsS46.drew | apply IsS46.set_0 | apply IsS46.set_1 | apply IsS46.set_2) | exact HI218.out)); (case side2 => repeat (first | (with_reducible first | exact HB.out | apply below_alloc | apply pw_below_drewN | apply below_drew1 | refine below_set ?_ (IsS46.ge HI218.out)) | exact HB.out)); rintro e w54 ⟨rfl, hi, hb, hk⟩; have n0_ := Aside0.mk (hb); have n1_ := Aside0.mk (hi); clear HB; clear HI218; have HB := n0_; have HI218 := n1_; clear n0_ n1_; (try clear hb); (try clear hb2); (try clear hk); (try clear hi)))
                            go_ret
                            exact ⟨by first | rfl | (simp [errW_none, errW_some] <;> rfl) | (simp [*, errW_none, errW_some] <;> rfl), by repeat (first | (with_reducible first | exact HB.out | apply below_alloc | apply pw_below_drewN | apply below_drew1 | refine below_set ?_ (IsS46.ge HI218.out)) | exact HB.out)⟩
                        · rw [if_neg c46] at H
                          have c46b0 : (t239.toList == a3.toList) = false := beq_eq_false_iff_ne.mpr c46
                          have c46b1 : (t239.toList != a3.toList) = true := bne_iff_ne.mpr c46
                          obtain rfl := Option.some.inj H
                          go_wp2_with (first | (go_at_call 21; (with_reducible refine (octets_Cursor_Signed.calls g218 x219000_16 x219001_16 x219002_16 t235 t236 t237 t238 w _ ?side1 ?side2 A43.out).mono ?_); (case side1 => repeat (first | (with_reducible first | exact HI218.out | apply IsS46.alloc | apply IsS46.drewN | apply IsS46.drew | apply IsS46.set_0 | apply IsS46.set_1 | apply IsS46.set_2) | exact HI218.out)); (case side2 => repeat (first | (with_reducible first | exact HB.out | apply below_alloc | apply pw_below_drewN | apply below_drew1 | refine below_set ?_ (IsS46.ge HI218.out)) | exact HB.out)); rintro e w55 ⟨rfl, hi, hb, hk⟩; have n0_ := Aside0.mk (hb); have n1_ := Aside0.mk (hi); clear HB; clear HI218; have HB := n0_; have HI218 := n1_; clear n0_ n1_; (try clear hb); (try clear hb2); (try clear hk); (try clear hi)) | (go_at_call 16; (with_reducible refine (octets_Cursor_Bytes.calls g218 t236 t237 t238 (a3.size : Int) t239 t240 t241 t242 w _ ?side1 ?side2 A45.out).mono ?_); (case side1 => repeat (first | (with_reducible first | exact HI218.out | apply IsS46.alloc | apply IsS46.drewN | apply IsS46.drew | apply IsS46.set_0 | apply IsS46.set_1 | apply IsS46.set_2) | exact HI218.out)); (case side2 => repeat (first | (with_reducible first | exact HB.out | apply below_alloc | apply pw_below_drewN | apply below_drew1 | refine below_set ?_ (IsS46.ge HI218.out)) | exact HB.out)); rintro e w56 ⟨rfl, hi, hb, hk⟩; have n0_ := Aside0.mk (hb); have n1_ := Aside0.mk (hi); clear HB; clear HI218; have HB := n0_; have HI218 := n1_; clear n0_ n1_; (try clear hb); (try clear hb2); (try clear hk); (try clear hi)))
                          go_ret
                          exact ⟨by first | rfl | (simp [errW_none, errW_some] <;> rfl) | (simp [*, errW_none, errW_some] <;> rfl), by repeat (first | (with_reducible first | exact HB.out | apply below_alloc | apply pw_below_drewN | apply below_drew1 | refine below_set ?_ (IsS46.ge HI218.out)) | exact HB.out)⟩
                      · rw [if_neg c44] at H
                        have c44b0 : (t235 == a2) = false := beq_eq_false_iff_ne.mpr c44
                        have c44b1 : (t235 != a2) = true := bne_iff_ne.mpr c44
                        obtain rfl := Option.some.inj H
                        go_wp2_with (first | (go_at_call 21; (with_reducible refine (octets_Cursor_Signed.calls g218 x219000_16 x219001_16 x219002_16 t235 t236 t237 t238 w _ ?side1 ?side2 A43.out).mono ?_); (case side1 => repeat (first | (with_reducible first | exact HI218.out | apply IsS46.alloc | apply IsS46.drewN | apply IsS46.drew | apply IsS46.set_0 | apply IsS46.set_1 | apply IsS46.set_2) | exact HI218.out)); (case side2 => repeat (first | (with_reducible first | exact HB.out | apply below_alloc | apply pw_below_drewN | apply below_drew1 | refine below_set ?_ (IsS46.ge HI218.out)) | exact HB.out)); rintro e w57 ⟨rfl, hi, hb, hk⟩; have n0_ := Aside0.mk (hb); have n1_ := Aside0.mk (hi); clear HB; clear HI218; have HB := n0_; have HI218 := n1_; clear n0_ n1_; (try clear hb); (try clear hb2); (try clear hk); (try clear hi)))
                        go_ret
                        exact ⟨by first | rfl | (simp [errW_none, errW_some] <;> rfl) | (simp [*, errW_none, errW_some] <;> rfl), by repeat (first | (with_reducible first | exact HB.out | apply below_alloc | apply pw_below_drewN | apply below_drew1 | refine below_set ?_ (IsS46.ge HI218.out)) | exact HB.out)⟩
            · rw [if_neg c15] at H
              exact absurd H (by simp)
          · rw [if_neg c14] at H
            exact absurd H (by simp)
        · rw [if_neg c13] at H
          exact absurd H (by simp)
      · rw [if_neg c11] at H
        have c11b0 : (t211 == 0) = false := beq_eq_false_iff_ne.mpr c11
        have c11b1 : (t211 != 0) = true := bne_iff_ne.mpr c11
        by_cases c58 : t210.toList = ([] : List UInt8)
        · rw [if_pos c58] at H
          have c58b0 : (t210.toList == ([] : List UInt8)) = true := beq_iff_eq.mpr c58
          have c58b1 : (t210.toList != ([] : List UInt8)) = false := bne_eq_false_iff_eq.mpr c58
          clear c58
          obtain rfl := Option.some.inj H
          go_enter Try.func7, Try.ntmps7
          go_wp2_with (first | ((with_reducible refine gate_callee (f := 8) rfl ?_); refine goesL_ (some 16) rfl rfl Try.func8 (by kernel_rfl) rfl #[] rfl (by (try simp only [List.map_toArray, List.map_cons, List.map_nil]); first | done | rfl | (simp only [List.length_drop, List.length_take]; rfl)) ?_; (with_reducible refine (miradorlaw01_works.calls k  true _ A5.out).mono ?_); rintro e w59 ⟨rfl, hb⟩; refine ⟨_, rfl, ?_⟩; have n0_ := Aside0.mk (below_step (by repeat (first | (with_reducible first | exact HB.out | apply below_alloc | apply pw_below_drewN | apply below_drew1) | exact HB.out)) hb); clear HB; have HB := n0_; clear n0_; (try clear hb); (try clear hb2); (try clear hk); (try clear hi)) | ((with_reducible refine gate_callee (f := 9) rfl ?_); refine goesL_ (some 26) rfl rfl Try.func9 (by kernel_rfl) rfl #[.int .i64 a0, .int .i64 a1] rfl (by (try simp only [List.map_toArray, List.map_cons, List.map_nil]); first | done | rfl | (simp only [List.length_drop, List.length_take]; rfl)) ?_; (with_reducible refine (octets_Put.calls k a0 a1 t210 t211 _ A9.out).mono ?_); rintro e w60 ⟨rfl, hb⟩; refine ⟨_, rfl, ?_⟩; have n0_ := Aside0.mk (below_step (by repeat (first | (with_reducible first | exact HB.out | apply below_alloc | apply pw_below_drewN | apply below_drew1) | exact HB.out)) hb); clear HB; have HB := n0_; clear n0_; (try clear hb); (try clear hb2); (try clear hk); (try clear hi)) | ((with_reducible refine gate_callee (f := 11) rfl ?_); refine goesL_ (some 32) rfl rfl Try.func11 (by kernel_rfl) rfl #[.int .i64 a0, .int .i64 a1] rfl (by (try simp only [List.map_toArray, List.map_cons, List.map_nil]); first | done | rfl | (simp only [List.length_drop, List.length_take]; rfl)) ?_; (with_reducible refine (octets_Little.calls k a0 a1 t212 t213 _ A10.out).mono ?_); rintro e w61 ⟨rfl, hb⟩; refine ⟨_, rfl, ?_⟩; have n0_ := Aside0.mk (below_step (by repeat (first | (with_reducible first | exact HB.out | apply below_alloc | apply pw_below_drewN | apply below_drew1) | exact HB.out)) hb); clear HB; have HB := n0_; clear n0_; (try clear hb); (try clear hb2); (try clear hk); (try clear hi)))
          go_ret
          exact ⟨by first | rfl | (simp [errW_none, errW_some] <;> rfl) | (simp [*, errW_none, errW_some] <;> rfl), by repeat (first | (with_reducible first | exact HB.out | apply below_alloc | apply pw_below_drewN | apply below_drew1) | exact HB.out)⟩
        · rw [if_neg c58] at H
          have c58b0 : (t210.toList == ([] : List UInt8)) = false := beq_eq_false_iff_ne.mpr c58
          have c58b1 : (t210.toList != ([] : List UInt8)) = true := bne_iff_ne.mpr c58
          obtain rfl := Option.some.inj H
          go_enter Try.func7, Try.ntmps7
          go_wp2_with (first | ((with_reducible refine gate_callee (f := 8) rfl ?_); refine goesL_ (some 16) rfl rfl Try.func8 (by kernel_rfl) rfl #[] rfl (by (try simp only [List.map_toArray, List.map_cons, List.map_nil]); first | done | rfl | (simp only [List.length_drop, List.length_take]; rfl)) ?_; (with_reducible refine (miradorlaw01_works.calls k  true _ A5.out).mono ?_); rintro e w62 ⟨rfl, hb⟩; refine ⟨_, rfl, ?_⟩; have n0_ := Aside0.mk (below_step (by repeat (first | (with_reducible first | exact HB.out | apply below_alloc | apply pw_below_drewN | apply below_drew1) | exact HB.out)) hb); clear HB; have HB := n0_; clear n0_; (try clear hb); (try clear hb2); (try clear hk); (try clear hi)) | ((with_reducible refine gate_callee (f := 9) rfl ?_); refine goesL_ (some 26) rfl rfl Try.func9 (by kernel_rfl) rfl #[.int .i64 a0, .int .i64 a1] rfl (by (try simp only [List.map_toArray, List.map_cons, List.map_nil]); first | done | rfl | (simp only [List.length_drop, List.length_take]; rfl)) ?_; (with_reducible refine (octets_Put.calls k a0 a1 t210 t211 _ A9.out).mono ?_); rintro e w63 ⟨rfl, hb⟩; refine ⟨_, rfl, ?_⟩; have n0_ := Aside0.mk (below_step (by repeat (first | (with_reducible first | exact HB.out | apply below_alloc | apply pw_below_drewN | apply below_drew1) | exact HB.out)) hb); clear HB; have HB := n0_; clear n0_; (try clear hb); (try clear hb2); (try clear hk); (try clear hi)) | ((with_reducible refine gate_callee (f := 11) rfl ?_); refine goesL_ (some 32) rfl rfl Try.func11 (by kernel_rfl) rfl #[.int .i64 a0, .int .i64 a1] rfl (by (try simp only [List.map_toArray, List.map_cons, List.map_nil]); first | done | rfl | (simp only [List.length_drop, List.length_take]; rfl)) ?_; (with_reducible refine (octets_Little.calls k a0 a1 t212 t213 _ A10.out).mono ?_); rintro e w64 ⟨rfl, hb⟩; refine ⟨_, rfl, ?_⟩; have n0_ := Aside0.mk (below_step (by repeat (first | (with_reducible first | exact HB.out | apply below_alloc | apply pw_below_drewN | apply below_drew1) | exact HB.out)) hb); clear HB; have HB := n0_; clear n0_; (try clear hb); (try clear hb2); (try clear hk); (try clear hi)))
          go_ret
          exact ⟨by first | rfl | (simp [errW_none, errW_some] <;> rfl) | (simp [*, errW_none, errW_some] <;> rfl), by repeat (first | (with_reducible first | exact HB.out | apply below_alloc | apply pw_below_drewN | apply below_drew1) | exact HB.out)⟩
  · replace c6 := Bool.eq_false_iff.mpr c6
    subst c6
    have H1 : (some false) = some r := by rw [if_neg (show ¬ (false = true) by decide)] at H; exact H
    clear H
    have H := H1
    clear H1
    obtain rfl := Option.some.inj H
    go_enter Try.func7, Try.ntmps7
    go_wp2_with (first | ((with_reducible refine gate_callee (f := 8) rfl ?_); refine goesL_ (some 16) rfl rfl Try.func8 (by kernel_rfl) rfl #[] rfl (by (try simp only [List.map_toArray, List.map_cons, List.map_nil]); first | done | rfl | (simp only [List.length_drop, List.length_take]; rfl)) ?_; (with_reducible refine (miradorlaw01_works.calls k  false _ A5.out).mono ?_); rintro e w65 ⟨rfl, hb⟩; refine ⟨_, rfl, ?_⟩; have n0_ := Aside0.mk (below_step (by repeat (first | (with_reducible first | exact HB.out | apply below_alloc | apply pw_below_drewN | apply below_drew1) | exact HB.out)) hb); clear HB; have HB := n0_; clear n0_; (try clear hb); (try clear hb2); (try clear hk); (try clear hi)))
    go_ret
    exact ⟨by first | rfl | (simp [errW_none, errW_some] <;> rfl) | (simp [*, errW_none, errW_some] <;> rfl), by repeat (first | (with_reducible first | exact HB.out | apply below_alloc | apply pw_below_drewN | apply below_drew1) | exact HB.out)⟩

/-- THE ONE PURE STATEMENT of miradorlaw01_OctetsBack: yours. -/
def miradorlaw01_OctetsBack.Pure : Prop := ∀ (a0 : Int) (a1 : Int) (a2 : Int) (a3 : ByteArray), (Lit.int .i64 a0).wf = true → (Lit.int .i64 a1).wf = true → (Lit.int .i64 a2).wf = true → a3.size ≤ 140737488351232 → ∃ k, miradorlaw01_OctetsBack.f k a0 a1 a2 a3 = some true
theorem miradorlaw01_OctetsBack.walk (P : miradorlaw01_OctetsBack.Pure) (a0 : Int) (a1 : Int) (a2 : Int) (a3 : ByteArray) (w : World) (w0 : (Lit.int .i64 a0).wf = true) (w1 : (Lit.int .i64 a1).wf = true) (w2 : (Lit.int .i64 a2).wf = true) (w3 : a3.size ≤ 140737488351232) :
    Calls Try.prog 7 #[.int .i64 a0, .int .i64 a1, .int .i64 a2, .string a3] w fun e w' => e = .returned (.bool true) ∧ Below w.heap.size w w' := by
  obtain ⟨k, h⟩ := P a0 a1 a2 a3 w0 w1 w2 w3
  refine (miradorlaw01_OctetsBack.calls k a0 a1 a2 a3 true w h).mono ?_
  rintro e w' ⟨rfl, hd⟩
  exact ⟨rfl, hd⟩

end Go.Proofs.Ytcacnnjedfkelaa.X
