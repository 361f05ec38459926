/- What each Go function that these laws use answers: as a Lean function, with the proof that the machine's call comes to it. Written by a program of this session (xprint.py). -/
import Derived.Test.YtaielfghgmghgaaXx0
import Derived.Test.YtaielfghgmghgaaXx1
import Derived.Test.YtaielfghgmghgaaXx2
import Derived.Test.YtaielfghgmghgaaXx3
import Derived.Test.YtaielfghgmghgaaXx4
namespace Go.Proofs.Ytaielfghgmghgaa.X
open Go.RowKit Go.Proofs.YtaielfghgmghgaaW.PrintWords Go.Proofs.YtaielfghgmghgaaW.PrintLast Go.Proofs.YtaielfghgmghgaaW.PrintMore
attribute [local go_sem] max2_int min2_int max_two min_two max_three min_three max_four min_four   -- for this text's walks alone
set_option linter.unusedVariables false
set_option linter.unusedSimpArgs false

attribute [local go_sem high] eqA23
/-! ### miradorlaw13_works: function 8 -/
def miradorlaw13_works.f  : Option (Bool) := (miradorlaw13_high.f).bind fun bt191 => ((format_Bytes.f bt191.1 bt191.2.1 bt191.2.2.1 bt191.2.2.2.1 bt191.2.2.2.2.1 bt191.2.2.2.2.2.1 bt191.2.2.2.2.2.2.1 bt191.2.2.2.2.2.2.2.1 bt191.2.2.2.2.2.2.2.2.1 bt191.2.2.2.2.2.2.2.2.2).bind fun t202 => ((format_Parse.f t202).bind fun bt203 => ((format_Valid.f bt191.1 bt191.2.1 bt191.2.2.1 bt191.2.2.2.1 bt191.2.2.2.2.1 bt191.2.2.2.2.2.1 bt191.2.2.2.2.2.2.1 bt191.2.2.2.2.2.2.2.1 bt191.2.2.2.2.2.2.2.2.1 bt191.2.2.2.2.2.2.2.2.2).bind fun t215 => (if t215 = true then ((format_Value.f bt191.1 bt191.2.1 bt191.2.2.1 bt191.2.2.2.1 bt191.2.2.2.2.1 bt191.2.2.2.2.2.1 bt191.2.2.2.2.2.2.1 bt191.2.2.2.2.2.2.2.1 bt191.2.2.2.2.2.2.2.2.1 bt191.2.2.2.2.2.2.2.2.2 16744448).bind fun t216 => (if t216 = 64512 then ((format_Quant.f bt191.1 bt191.2.1 bt191.2.2.1 bt191.2.2.2.1 bt191.2.2.2.2.1 bt191.2.2.2.2.2.1 bt191.2.2.2.2.2.2.1 bt191.2.2.2.2.2.2.2.1 bt191.2.2.2.2.2.2.2.2.1 bt191.2.2.2.2.2.2.2.2.2 16744448).bind fun t217 => (if t217 = 16744960 then (if (bt203.1 == bt191.1 && (bt203.2.1 == bt191.2.1 && (bt203.2.2.1 == bt191.2.2.1 && (bt203.2.2.2.1 == bt191.2.2.2.1 && (bt203.2.2.2.2.1 == bt191.2.2.2.2.1 && (bt203.2.2.2.2.2.1 == bt191.2.2.2.2.2.1 && (bt203.2.2.2.2.2.2.1 == bt191.2.2.2.2.2.2.1 && (bt203.2.2.2.2.2.2.2.1 == bt191.2.2.2.2.2.2.2.1 && (bt203.2.2.2.2.2.2.2.2.1 == bt191.2.2.2.2.2.2.2.2.1 && (bt203.2.2.2.2.2.2.2.2.2.1 == bt191.2.2.2.2.2.2.2.2.2)))))))))) = true then (if bt203.2.2.2.2.2.2.2.2.2.2 = 0 then ((format_Standard.f).bind fun bt218 => ((format_Quant.f bt218.1 bt218.2.1 bt218.2.2.1 bt218.2.2.2.1 bt218.2.2.2.2.1 bt218.2.2.2.2.2.1 bt218.2.2.2.2.2.2.1 bt218.2.2.2.2.2.2.2.1 bt218.2.2.2.2.2.2.2.2.1 bt218.2.2.2.2.2.2.2.2.2 1193046).bind fun t228 => (some (t228 == 1193046)))) else (some false)) else (some false)) else (some false))) else (some false))) else (some false)))))
set_option maxHeartbeats 8000000 in
set_option maxRecDepth 100000 in
theorem miradorlaw13_works.calls1  (r : Bool) (w : World) (hr_ : r = true) (h : miradorlaw13_works.f  = some r) :
    Calls Try.prog 8 #[] w fun e w' => e = .returned (.bool r) ∧ Below w.heap.size w w' := by
  have hu23 := Try.underlying23
  have HB := Aside0.mk (Below.refl w.heap.size w)
  have H : ((miradorlaw13_high.f).bind fun bt191 => ((format_Bytes.f bt191.1 bt191.2.1 bt191.2.2.1 bt191.2.2.2.1 bt191.2.2.2.2.1 bt191.2.2.2.2.2.1 bt191.2.2.2.2.2.2.1 bt191.2.2.2.2.2.2.2.1 bt191.2.2.2.2.2.2.2.2.1 bt191.2.2.2.2.2.2.2.2.2).bind fun t202 => ((format_Parse.f t202).bind fun bt203 => ((format_Valid.f bt191.1 bt191.2.1 bt191.2.2.1 bt191.2.2.2.1 bt191.2.2.2.2.1 bt191.2.2.2.2.2.1 bt191.2.2.2.2.2.2.1 bt191.2.2.2.2.2.2.2.1 bt191.2.2.2.2.2.2.2.2.1 bt191.2.2.2.2.2.2.2.2.2).bind fun t215 => (if t215 = true then ((format_Value.f bt191.1 bt191.2.1 bt191.2.2.1 bt191.2.2.2.1 bt191.2.2.2.2.1 bt191.2.2.2.2.2.1 bt191.2.2.2.2.2.2.1 bt191.2.2.2.2.2.2.2.1 bt191.2.2.2.2.2.2.2.2.1 bt191.2.2.2.2.2.2.2.2.2 16744448).bind fun t216 => (if t216 = 64512 then ((format_Quant.f bt191.1 bt191.2.1 bt191.2.2.1 bt191.2.2.2.1 bt191.2.2.2.2.1 bt191.2.2.2.2.2.1 bt191.2.2.2.2.2.2.1 bt191.2.2.2.2.2.2.2.1 bt191.2.2.2.2.2.2.2.2.1 bt191.2.2.2.2.2.2.2.2.2 16744448).bind fun t217 => (if t217 = 16744960 then (if (bt203.1 == bt191.1 && (bt203.2.1 == bt191.2.1 && (bt203.2.2.1 == bt191.2.2.1 && (bt203.2.2.2.1 == bt191.2.2.2.1 && (bt203.2.2.2.2.1 == bt191.2.2.2.2.1 && (bt203.2.2.2.2.2.1 == bt191.2.2.2.2.2.1 && (bt203.2.2.2.2.2.2.1 == bt191.2.2.2.2.2.2.1 && (bt203.2.2.2.2.2.2.2.1 == bt191.2.2.2.2.2.2.2.1 && (bt203.2.2.2.2.2.2.2.2.1 == bt191.2.2.2.2.2.2.2.2.1 && (bt203.2.2.2.2.2.2.2.2.2.1 == bt191.2.2.2.2.2.2.2.2.2)))))))))) = true then (if bt203.2.2.2.2.2.2.2.2.2.2 = 0 then ((format_Standard.f).bind fun bt218 => ((format_Quant.f bt218.1 bt218.2.1 bt218.2.2.1 bt218.2.2.2.1 bt218.2.2.2.2.1 bt218.2.2.2.2.2.1 bt218.2.2.2.2.2.2.1 bt218.2.2.2.2.2.2.2.1 bt218.2.2.2.2.2.2.2.2.1 bt218.2.2.2.2.2.2.2.2.2 1193046).bind fun t228 => (some (t228 == 1193046)))) else (some false)) else (some false)) else (some false))) else (some false))) else (some false)))))) = some r := h
  clear h
  have HRT := Aside0.mk hr_
  clear hr_
  replace H := Option.bind_eq_some_iff.mp H
  obtain ⟨⟨t191, t192, t193, t194, t195, t196, t197, t198, t199, t200⟩, A10, H⟩ := H
  replace H : ((format_Bytes.f t191 t192 t193 t194 t195 t196 t197 t198 t199 t200).bind fun t202 => ((format_Parse.f t202).bind fun bt203 => ((format_Valid.f t191 t192 t193 t194 t195 t196 t197 t198 t199 t200).bind fun t215 => (if t215 = true then ((format_Value.f t191 t192 t193 t194 t195 t196 t197 t198 t199 t200 16744448).bind fun t216 => (if t216 = 64512 then ((format_Quant.f t191 t192 t193 t194 t195 t196 t197 t198 t199 t200 16744448).bind fun t217 => (if t217 = 16744960 then (if (bt203.1 == t191 && (bt203.2.1 == t192 && (bt203.2.2.1 == t193 && (bt203.2.2.2.1 == t194 && (bt203.2.2.2.2.1 == t195 && (bt203.2.2.2.2.2.1 == t196 && (bt203.2.2.2.2.2.2.1 == t197 && (bt203.2.2.2.2.2.2.2.1 == t198 && (bt203.2.2.2.2.2.2.2.2.1 == t199 && (bt203.2.2.2.2.2.2.2.2.2.1 == t200)))))))))) = true then (if bt203.2.2.2.2.2.2.2.2.2.2 = 0 then ((format_Standard.f).bind fun bt218 => ((format_Quant.f bt218.1 bt218.2.1 bt218.2.2.1 bt218.2.2.2.1 bt218.2.2.2.2.1 bt218.2.2.2.2.2.1 bt218.2.2.2.2.2.2.1 bt218.2.2.2.2.2.2.2.1 bt218.2.2.2.2.2.2.2.2.1 bt218.2.2.2.2.2.2.2.2.2 1193046).bind fun t228 => (some (t228 == 1193046)))) else (some false)) else (some false)) else (some false))) else (some false))) else (some false))))) = some r := H
  have A1 := Aside0.mk A10
  clear A10
  replace H := Option.bind_eq_some_iff.mp H
  obtain ⟨t202, A20, H⟩ := H
  replace H : ((format_Parse.f t202).bind fun bt203 => ((format_Valid.f t191 t192 t193 t194 t195 t196 t197 t198 t199 t200).bind fun t215 => (if t215 = true then ((format_Value.f t191 t192 t193 t194 t195 t196 t197 t198 t199 t200 16744448).bind fun t216 => (if t216 = 64512 then ((format_Quant.f t191 t192 t193 t194 t195 t196 t197 t198 t199 t200 16744448).bind fun t217 => (if t217 = 16744960 then (if (bt203.1 == t191 && (bt203.2.1 == t192 && (bt203.2.2.1 == t193 && (bt203.2.2.2.1 == t194 && (bt203.2.2.2.2.1 == t195 && (bt203.2.2.2.2.2.1 == t196 && (bt203.2.2.2.2.2.2.1 == t197 && (bt203.2.2.2.2.2.2.2.1 == t198 && (bt203.2.2.2.2.2.2.2.2.1 == t199 && (bt203.2.2.2.2.2.2.2.2.2.1 == t200)))))))))) = true then (if bt203.2.2.2.2.2.2.2.2.2.2 = 0 then ((format_Standard.f).bind fun bt218 => ((format_Quant.f bt218.1 bt218.2.1 bt218.2.2.1 bt218.2.2.2.1 bt218.2.2.2.2.1 bt218.2.2.2.2.2.1 bt218.2.2.2.2.2.2.1 bt218.2.2.2.2.2.2.2.1 bt218.2.2.2.2.2.2.2.2.1 bt218.2.2.2.2.2.2.2.2.2 1193046).bind fun t228 => (some (t228 == 1193046)))) else (some false)) else (some false)) else (some false))) else (some false))) else (some false)))) = some r := H
  have A2 := Aside0.mk A20
  clear A20
  replace H := Option.bind_eq_some_iff.mp H
  obtain ⟨⟨t203, t204, t205, t206, t207, t208, t209, t210, t211, t212, t213⟩, A30, H⟩ := H
  replace H : ((format_Valid.f t191 t192 t193 t194 t195 t196 t197 t198 t199 t200).bind fun t215 => (if t215 = true then ((format_Value.f t191 t192 t193 t194 t195 t196 t197 t198 t199 t200 16744448).bind fun t216 => (if t216 = 64512 then ((format_Quant.f t191 t192 t193 t194 t195 t196 t197 t198 t199 t200 16744448).bind fun t217 => (if t217 = 16744960 then (if (t203 == t191 && (t204 == t192 && (t205 == t193 && (t206 == t194 && (t207 == t195 && (t208 == t196 && (t209 == t197 && (t210 == t198 && (t211 == t199 && (t212 == t200)))))))))) = true then (if t213 = 0 then ((format_Standard.f).bind fun bt218 => ((format_Quant.f bt218.1 bt218.2.1 bt218.2.2.1 bt218.2.2.2.1 bt218.2.2.2.2.1 bt218.2.2.2.2.2.1 bt218.2.2.2.2.2.2.1 bt218.2.2.2.2.2.2.2.1 bt218.2.2.2.2.2.2.2.2.1 bt218.2.2.2.2.2.2.2.2.2 1193046).bind fun t228 => (some (t228 == 1193046)))) else (some false)) else (some false)) else (some false))) else (some false))) else (some false))) = some r := H
  have A3 := Aside0.mk A30
  clear A30
  replace H := Option.bind_eq_some_iff.mp H
  obtain ⟨t215, A40, H⟩ := H
  replace H : (if t215 = true then ((format_Value.f t191 t192 t193 t194 t195 t196 t197 t198 t199 t200 16744448).bind fun t216 => (if t216 = 64512 then ((format_Quant.f t191 t192 t193 t194 t195 t196 t197 t198 t199 t200 16744448).bind fun t217 => (if t217 = 16744960 then (if (t203 == t191 && (t204 == t192 && (t205 == t193 && (t206 == t194 && (t207 == t195 && (t208 == t196 && (t209 == t197 && (t210 == t198 && (t211 == t199 && (t212 == t200)))))))))) = true then (if t213 = 0 then ((format_Standard.f).bind fun bt218 => ((format_Quant.f bt218.1 bt218.2.1 bt218.2.2.1 bt218.2.2.2.1 bt218.2.2.2.2.1 bt218.2.2.2.2.2.1 bt218.2.2.2.2.2.2.1 bt218.2.2.2.2.2.2.2.1 bt218.2.2.2.2.2.2.2.2.1 bt218.2.2.2.2.2.2.2.2.2 1193046).bind fun t228 => (some (t228 == 1193046)))) else (some false)) else (some false)) else (some false))) else (some false))) else (some false)) = some r := H
  have A4 := Aside0.mk A40
  clear A40
  by_cases c5 : t215 = true
  · subst c5
    have H1 : ((format_Value.f t191 t192 t193 t194 t195 t196 t197 t198 t199 t200 16744448).bind fun t216 => (if t216 = 64512 then ((format_Quant.f t191 t192 t193 t194 t195 t196 t197 t198 t199 t200 16744448).bind fun t217 => (if t217 = 16744960 then (if (t203 == t191 && (t204 == t192 && (t205 == t193 && (t206 == t194 && (t207 == t195 && (t208 == t196 && (t209 == t197 && (t210 == t198 && (t211 == t199 && (t212 == t200)))))))))) = true then (if t213 = 0 then ((format_Standard.f).bind fun bt218 => ((format_Quant.f bt218.1 bt218.2.1 bt218.2.2.1 bt218.2.2.2.1 bt218.2.2.2.2.1 bt218.2.2.2.2.2.1 bt218.2.2.2.2.2.2.1 bt218.2.2.2.2.2.2.2.1 bt218.2.2.2.2.2.2.2.2.1 bt218.2.2.2.2.2.2.2.2.2 1193046).bind fun t228 => (some (t228 == 1193046)))) else (some false)) else (some false)) else (some false))) else (some false))) = some r := by rw [if_pos rfl] at H; exact H
    clear H
    have H := H1
    clear H1
    replace H := Option.bind_eq_some_iff.mp H
    obtain ⟨t216, A60, H⟩ := H
    replace H : (if t216 = 64512 then ((format_Quant.f t191 t192 t193 t194 t195 t196 t197 t198 t199 t200 16744448).bind fun t217 => (if t217 = 16744960 then (if (t203 == t191 && (t204 == t192 && (t205 == t193 && (t206 == t194 && (t207 == t195 && (t208 == t196 && (t209 == t197 && (t210 == t198 && (t211 == t199 && (t212 == t200)))))))))) = true then (if t213 = 0 then ((format_Standard.f).bind fun bt218 => ((format_Quant.f bt218.1 bt218.2.1 bt218.2.2.1 bt218.2.2.2.1 bt218.2.2.2.2.1 bt218.2.2.2.2.2.1 bt218.2.2.2.2.2.2.1 bt218.2.2.2.2.2.2.2.1 bt218.2.2.2.2.2.2.2.2.1 bt218.2.2.2.2.2.2.2.2.2 1193046).bind fun t228 => (some (t228 == 1193046)))) else (some false)) else (some false)) else (some false))) else (some false)) = some r := H
    have A6 := Aside0.mk A60
    clear A60
    by_cases c7 : t216 = 64512
    · rw [if_pos c7] at H
      have c7b0 : (t216 == 64512) = true := beq_iff_eq.mpr c7
      have c7b1 : (t216 != 64512) = false := bne_eq_false_iff_eq.mpr c7
      clear c7
      replace H := Option.bind_eq_some_iff.mp H
      obtain ⟨t217, A80, H⟩ := H
      replace H : (if t217 = 16744960 then (if (t203 == t191 && (t204 == t192 && (t205 == t193 && (t206 == t194 && (t207 == t195 && (t208 == t196 && (t209 == t197 && (t210 == t198 && (t211 == t199 && (t212 == t200)))))))))) = true then (if t213 = 0 then ((format_Standard.f).bind fun bt218 => ((format_Quant.f bt218.1 bt218.2.1 bt218.2.2.1 bt218.2.2.2.1 bt218.2.2.2.2.1 bt218.2.2.2.2.2.1 bt218.2.2.2.2.2.2.1 bt218.2.2.2.2.2.2.2.1 bt218.2.2.2.2.2.2.2.2.1 bt218.2.2.2.2.2.2.2.2.2 1193046).bind fun t228 => (some (t228 == 1193046)))) else (some false)) else (some false)) else (some false)) = some r := H
      have A8 := Aside0.mk A80
      clear A80
      by_cases c9 : t217 = 16744960
      · rw [if_pos c9] at H
        have c9b0 : (t217 == 16744960) = true := beq_iff_eq.mpr c9
        have c9b1 : (t217 != 16744960) = false := bne_eq_false_iff_eq.mpr c9
        clear c9
        by_cases c10 : (t203 == t191 && (t204 == t192 && (t205 == t193 && (t206 == t194 && (t207 == t195 && (t208 == t196 && (t209 == t197 && (t210 == t198 && (t211 == t199 && (t212 == t200)))))))))) = true
        · rw [if_pos c10] at H
          have c10b0 : (t203 == t191 && (t204 == t192 && (t205 == t193 && (t206 == t194 && (t207 == t195 && (t208 == t196 && (t209 == t197 && (t210 == t198 && (t211 == t199 && (t212 == t200)))))))))) = true := c10
          (try (have c10b1 : decide (t203 = t191 && (t204 == t192 && (t205 == t193 && (t206 == t194 && (t207 == t195 && (t208 == t196 && (t209 == t197 && (t210 == t198 && (t211 == t199 && (t212 == t200)))))))))) = true := by simpa using c10))
          (try (have c10b2 : (t203 == t191 && (t204 == t192 && (t205 == t193 && (t206 == t194 && (t207 == t195 && (t208 == t196 && (t209 == t197 && (t210 == t198 && (t211 == t199 && (t212 == t200)))))))))) = true := by simpa using c10))
          clear c10
          by_cases c11 : t213 = 0
          · rw [if_pos c11] at H
            have c11b0 : (t213 == 0) = true := beq_iff_eq.mpr c11
            have c11b1 : (t213 != 0) = false := bne_eq_false_iff_eq.mpr c11
            clear c11
            replace H := Option.bind_eq_some_iff.mp H
            obtain ⟨⟨t218, t219, t220, t221, t222, t223, t224, t225, t226, t227⟩, A120, H⟩ := H
            replace H : ((format_Quant.f t218 t219 t220 t221 t222 t223 t224 t225 t226 t227 1193046).bind fun t228 => (some (t228 == 1193046))) = some r := H
            have A12 := Aside0.mk A120
            clear A120
            replace H := Option.bind_eq_some_iff.mp H
            obtain ⟨t228, A130, H⟩ := H
            replace H : (some (t228 == 1193046)) = some r := H
            have A13 := Aside0.mk A130
            clear A130
            obtain rfl := Option.some.inj H
            go_enter Try.func8, Try.ntmps8
            go_wp2_with (first | ((with_reducible refine gate_callee (f := 30) rfl ?_); refine goesL_ (some 4) rfl rfl Try.func30 (by kernel_rfl) rfl #[] rfl (by (try simp only [List.map_toArray, List.map_cons, List.map_nil]); first | done | rfl | (simp only [List.length_drop, List.length_take]; rfl)) ?_; (with_reducible refine (miradorlaw13_high.calls  t191 t192 t193 t194 t195 t196 t197 t198 t199 t200 _ A1.out).mono ?_); rintro e w14 ⟨rfl, hb⟩; refine ⟨_, rfl, ?_⟩; have n0_ := Aside0.mk (below_step (by repeat (first | (with_reducible first | exact HB.out | apply below_alloc | apply pw_below_drewN | apply below_drew1) | exact HB.out)) hb); clear HB; have HB := n0_; clear n0_; (try clear hb); (try clear hb2); (try clear hk); (try clear hi)) | ((with_reducible refine gate_dst (N := 1) rfl ?_); refine box_event ?hg (N := 1) ?hd (cs := #[.int .i64 0, .int .i64 0, .bool false, .bool false, .int .i64 0, .int .i64 0, .int .i64 0, .int .i64 0, .int .i64 0, .int .i64 0]) (t := 23) ?hr ?_; (case hd => rfl); (case hg => rfl); (case hr => first | (go_simp; done) | (go_simp; rfl)); intro gb201 hg w15 hbox hb; have n0_ := Aside0.mk (below_step (by repeat (first | (with_reducible first | exact HB.out | apply below_alloc | apply pw_below_drewN | apply below_drew1) | exact HB.out)) hb); have n1_ := Aside0.mk (hbox); have n2_ := Aside0.mk ((by rw [hg]; exact (below_size (by repeat (first | (with_reducible first | exact HB.out | apply below_alloc | apply pw_below_drewN | apply below_drew1) | exact HB.out))) : w.heap.size ≤ gb201)); have n3_ := Aside0.mk ((by rw [hg]; exact (below_size (by repeat (first | (with_reducible first | exact HB.out | apply below_alloc | apply pw_below_drewN | apply below_drew1) | exact HB.out))) : w.heap.size ≤ gb201)); clear HB; have HB := n0_; have BK201 := n1_; have GW201 := n2_; have GE201 := n3_; clear n0_ n1_ n2_ n3_; clear hb hbox hg; have hcz16_0 : w15.cell? ⟨gb201, 0, none⟩ = some (.int .i64 0) := (blk_cell BK201.out 0).trans rfl; have hcz16_1 : w15.cell? ⟨gb201, 1, none⟩ = some (.int .i64 0) := (blk_cell BK201.out 1).trans rfl; have hcz16_2 : w15.cell? ⟨gb201, 2, none⟩ = some (.bool false) := (blk_cell BK201.out 2).trans rfl; have hcz16_3 : w15.cell? ⟨gb201, 3, none⟩ = some (.bool false) := (blk_cell BK201.out 3).trans rfl; have hcz16_4 : w15.cell? ⟨gb201, 4, none⟩ = some (.int .i64 0) := (blk_cell BK201.out 4).trans rfl; have hcz16_5 : w15.cell? ⟨gb201, 5, none⟩ = some (.int .i64 0) := (blk_cell BK201.out 5).trans rfl; have hcz16_6 : w15.cell? ⟨gb201, 6, none⟩ = some (.int .i64 0) := (blk_cell BK201.out 6).trans rfl; have hcz16_7 : w15.cell? ⟨gb201, 7, none⟩ = some (.int .i64 0) := (blk_cell BK201.out 7).trans rfl; have hcz16_8 : w15.cell? ⟨gb201, 8, none⟩ = some (.int .i64 0) := (blk_cell BK201.out 8).trans rfl; have hcz16_9 : w15.cell? ⟨gb201, 9, none⟩ = some (.int .i64 0) := (blk_cell BK201.out 9).trans rfl; have hfz16_0 := blk_frozen BK201.out 0; have hfz16_1 := blk_frozen BK201.out 1; have hfz16_2 := blk_frozen BK201.out 2; have hfz16_3 := blk_frozen BK201.out 3; have hfz16_4 := blk_frozen BK201.out 4; have hfz16_5 := blk_frozen BK201.out 5; have hfz16_6 := blk_frozen BK201.out 6; have hfz16_7 := blk_frozen BK201.out 7; have hfz16_8 := blk_frozen BK201.out 8; have hfz16_9 := blk_frozen BK201.out 9) | ((with_reducible refine gate_callee (f := 13) rfl ?_); refine goesL_ (some 7) rfl rfl Try.func13 (by kernel_rfl) rfl #[.agg #[.int .i64 t191, .int .i64 t192, .bool t193, .bool t194, .int .i64 t195, .int .i64 t196, .int .i64 t197, .int .i64 t198, .int .i64 t199, .int .i64 t200]] rfl (by (try simp only [List.map_toArray, List.map_cons, List.map_nil]); first | done | rfl | (simp only [List.length_drop, List.length_take]; rfl)) ?_; (with_reducible refine (format_Bytes.calls t191 t192 t193 t194 t195 t196 t197 t198 t199 t200 t202 _ A2.out).mono ?_); rintro e w17 ⟨rfl, hb⟩; refine ⟨_, rfl, ?_⟩; have n0_ := Aside0.mk (blk_below (g := gb201) (o := .cells #[.int .i64 t191, .int .i64 t192, .bool t193, .bool t194, .int .i64 t195, .int .i64 t196, .int .i64 t197, .int .i64 t198, .int .i64 t199, .int .i64 t200] 23 (0, 0)) (by (with_reducible repeat (first | refine blk_drewN ?_ _ | refine blk_drew ?_ | refine blk_alloc ?_ _)); refine blk_put (cs := #[.int .i64 t191, .int .i64 t192, .bool t193, .bool t194, .int .i64 t195, .int .i64 t196, .int .i64 t197, .int .i64 t198, .int .i64 t199, .int .i64 0]) ?_ 9 _ rfl; (with_reducible repeat (first | refine blk_drewN ?_ _ | refine blk_drew ?_ | refine blk_alloc ?_ _)); refine blk_put (cs := #[.int .i64 t191, .int .i64 t192, .bool t193, .bool t194, .int .i64 t195, .int .i64 t196, .int .i64 t197, .int .i64 t198, .int .i64 0, .int .i64 0]) ?_ 8 _ rfl; (with_reducible repeat (first | refine blk_drewN ?_ _ | refine blk_drew ?_ | refine blk_alloc ?_ _)); refine blk_put (cs := #[.int .i64 t191, .int .i64 t192, .bool t193, .bool t194, .int .i64 t195, .int .i64 t196, .int .i64 t197, .int .i64 0, .int .i64 0, .int .i64 0]) ?_ 7 _ rfl; (with_reducible repeat (first | refine blk_drewN ?_ _ | refine blk_drew ?_ | refine blk_alloc ?_ _)); refine blk_put (cs := #[.int .i64 t191, .int .i64 t192, .bool t193, .bool t194, .int .i64 t195, .int .i64 t196, .int .i64 0, .int .i64 0, .int .i64 0, .int .i64 0]) ?_ 6 _ rfl; (with_reducible repeat (first | refine blk_drewN ?_ _ | refine blk_drew ?_ | refine blk_alloc ?_ _)); refine blk_put (cs := #[.int .i64 t191, .int .i64 t192, .bool t193, .bool t194, .int .i64 t195, .int .i64 0, .int .i64 0, .int .i64 0, .int .i64 0, .int .i64 0]) ?_ 5 _ rfl; (with_reducible repeat (first | refine blk_drewN ?_ _ | refine blk_drew ?_ | refine blk_alloc ?_ _)); refine blk_put (cs := #[.int .i64 t191, .int .i64 t192, .bool t193, .bool t194, .int .i64 0, .int .i64 0, .int .i64 0, .int .i64 0, .int .i64 0, .int .i64 0]) ?_ 4 _ rfl; (with_reducible repeat (first | refine blk_drewN ?_ _ | refine blk_drew ?_ | refine blk_alloc ?_ _)); refine blk_put (cs := #[.int .i64 t191, .int .i64 t192, .bool t193, .bool false, .int .i64 0, .int .i64 0, .int .i64 0, .int .i64 0, .int .i64 0, .int .i64 0]) ?_ 3 _ rfl; (with_reducible repeat (first | refine blk_drewN ?_ _ | refine blk_drew ?_ | refine blk_alloc ?_ _)); refine blk_put (cs := #[.int .i64 t191, .int .i64 t192, .bool false, .bool false, .int .i64 0, .int .i64 0, .int .i64 0, .int .i64 0, .int .i64 0, .int .i64 0]) ?_ 2 _ rfl; (with_reducible repeat (first | refine blk_drewN ?_ _ | refine blk_drew ?_ | refine blk_alloc ?_ _)); refine blk_put (cs := #[.int .i64 t191, .int .i64 0, .bool false, .bool false, .int .i64 0, .int .i64 0, .int .i64 0, .int .i64 0, .int .i64 0, .int .i64 0]) ?_ 1 _ rfl; (with_reducible repeat (first | refine blk_drewN ?_ _ | refine blk_drew ?_ | refine blk_alloc ?_ _)); refine blk_put (cs := #[.int .i64 0, .int .i64 0, .bool false, .bool false, .int .i64 0, .int .i64 0, .int .i64 0, .int .i64 0, .int .i64 0, .int .i64 0]) ?_ 0 _ rfl; (with_reducible repeat (first | refine blk_drewN ?_ _ | refine blk_drew ?_ | refine blk_alloc ?_ _)); exact BK201.out) hb); have n1_ := Aside0.mk (below_step (by repeat (first | (with_reducible first | exact HB.out | apply below_alloc | apply pw_below_drewN | apply below_drew1 | refine below_set ?_ GE201.out) | exact HB.out)) hb); clear BK201; clear HB; have BK201 := n0_; have HB := n1_; clear n0_ n1_; (try clear hb); (try clear hb2); (try clear hk); (try clear hi)) | ((with_reducible refine gate_callee (f := 9) rfl ?_); refine goesL_ (some 8) rfl rfl Try.func9 (by kernel_rfl) rfl #[.string t202] rfl (by (try simp only [List.map_toArray, List.map_cons, List.map_nil]); first | done | rfl | (simp only [List.length_drop, List.length_take]; rfl)) ?_; (with_reducible refine (format_Parse.calls t202 t203 t204 t205 t206 t207 t208 t209 t210 t211 t212 t213 _ A3.out).mono ?_); rintro e w18 ⟨rfl, hb⟩; refine ⟨_, rfl, ?_⟩; have n0_ := Aside0.mk (blk_below (g := gb201) (o := .cells #[.int .i64 t191, .int .i64 t192, .bool t193, .bool t194, .int .i64 t195, .int .i64 t196, .int .i64 t197, .int .i64 t198, .int .i64 t199, .int .i64 t200] 23 (0, 0)) (by (with_reducible repeat (first | refine blk_drewN ?_ _ | refine blk_drew ?_ | refine blk_alloc ?_ _)); exact BK201.out) hb); have n1_ := Aside0.mk (below_step (by repeat (first | (with_reducible first | exact HB.out | apply below_alloc | apply pw_below_drewN | apply below_drew1 | refine below_set ?_ GE201.out) | exact HB.out)) hb); clear BK201; clear HB; have BK201 := n0_; have HB := n1_; clear n0_ n1_; (try clear hb); (try clear hb2); (try clear hk); (try clear hi)) | ((with_reducible refine gate_dst (N := 2) rfl ?_); refine box_event ?hg (N := 2) ?hd (cs := #[.int .i64 0, .int .i64 0, .bool false, .bool false, .int .i64 0, .int .i64 0, .int .i64 0, .int .i64 0, .int .i64 0, .int .i64 0]) (t := 23) ?hr ?_; (case hd => rfl); (case hg => rfl); (case hr => first | (go_simp; done) | (go_simp; rfl)); intro gb214 hg w19 hbox hb; have n0_ := Aside0.mk (blk_below (g := gb201) (o := .cells #[.int .i64 t191, .int .i64 t192, .bool t193, .bool t194, .int .i64 t195, .int .i64 t196, .int .i64 t197, .int .i64 t198, .int .i64 t199, .int .i64 t200] 23 (0, 0)) (by (with_reducible repeat (first | refine blk_drewN ?_ _ | refine blk_drew ?_ | refine blk_alloc ?_ _)); exact BK201.out) hb); have n1_ := Aside0.mk (below_step (by repeat (first | (with_reducible first | exact HB.out | apply below_alloc | apply pw_below_drewN | apply below_drew1 | refine below_set ?_ GE201.out) | exact HB.out)) hb); have n2_ := Aside0.mk (hbox); have n3_ := Aside0.mk ((by rw [hg]; exact (below_size (by repeat (first | (with_reducible first | exact HB.out | apply below_alloc | apply pw_below_drewN | apply below_drew1 | refine below_set ?_ GE201.out) | exact HB.out))) : w.heap.size ≤ gb214)); have n4_ := Aside0.mk ((by rw [hg]; exact (below_size (by repeat (first | (with_reducible first | exact HB.out | apply below_alloc | apply pw_below_drewN | apply below_drew1 | refine below_set ?_ GE201.out) | exact HB.out))) : w.heap.size ≤ gb214)); have n5_ := Aside0.mk ((by rw [hg]; exact Nat.ne_of_lt (blk_lt (g := gb201) (o := .cells #[.int .i64 t191, .int .i64 t192, .bool t193, .bool t194, .int .i64 t195, .int .i64 t196, .int .i64 t197, .int .i64 t198, .int .i64 t199, .int .i64 t200] 23 (0, 0)) (by (with_reducible repeat (first | refine blk_drewN ?_ _ | refine blk_drew ?_ | refine blk_alloc ?_ _)); exact BK201.out)) : gb201 ≠ gb214)); have n6_ := Aside0.mk ((by rw [hg]; exact Nat.ne_of_gt (blk_lt (g := gb201) (o := .cells #[.int .i64 t191, .int .i64 t192, .bool t193, .bool t194, .int .i64 t195, .int .i64 t196, .int .i64 t197, .int .i64 t198, .int .i64 t199, .int .i64 t200] 23 (0, 0)) (by (with_reducible repeat (first | refine blk_drewN ?_ _ | refine blk_drew ?_ | refine blk_alloc ?_ _)); exact BK201.out)) : gb214 ≠ gb201)); clear BK201; clear HB; have BK201 := n0_; have HB := n1_; have BK214 := n2_; have GW214 := n3_; have GE214 := n4_; have NB201_214 := n5_; have NB214_201 := n6_; clear n0_ n1_ n2_ n3_ n4_ n5_ n6_; clear hb hbox hg; have hnb20 := NB214_201.out; have hnc20 := NB201_214.out; have hcz21_0 : w19.cell? ⟨gb214, 0, none⟩ = some (.int .i64 0) := (blk_cell BK214.out 0).trans rfl; have hcz21_1 : w19.cell? ⟨gb214, 1, none⟩ = some (.int .i64 0) := (blk_cell BK214.out 1).trans rfl; have hcz21_2 : w19.cell? ⟨gb214, 2, none⟩ = some (.bool false) := (blk_cell BK214.out 2).trans rfl; have hcz21_3 : w19.cell? ⟨gb214, 3, none⟩ = some (.bool false) := (blk_cell BK214.out 3).trans rfl; have hcz21_4 : w19.cell? ⟨gb214, 4, none⟩ = some (.int .i64 0) := (blk_cell BK214.out 4).trans rfl; have hcz21_5 : w19.cell? ⟨gb214, 5, none⟩ = some (.int .i64 0) := (blk_cell BK214.out 5).trans rfl; have hcz21_6 : w19.cell? ⟨gb214, 6, none⟩ = some (.int .i64 0) := (blk_cell BK214.out 6).trans rfl; have hcz21_7 : w19.cell? ⟨gb214, 7, none⟩ = some (.int .i64 0) := (blk_cell BK214.out 7).trans rfl; have hcz21_8 : w19.cell? ⟨gb214, 8, none⟩ = some (.int .i64 0) := (blk_cell BK214.out 8).trans rfl; have hcz21_9 : w19.cell? ⟨gb214, 9, none⟩ = some (.int .i64 0) := (blk_cell BK214.out 9).trans rfl; have hfz21_0 := blk_frozen BK214.out 0; have hfz21_1 := blk_frozen BK214.out 1; have hfz21_2 := blk_frozen BK214.out 2; have hfz21_3 := blk_frozen BK214.out 3; have hfz21_4 := blk_frozen BK214.out 4; have hfz21_5 := blk_frozen BK214.out 5; have hfz21_6 := blk_frozen BK214.out 6; have hfz21_7 := blk_frozen BK214.out 7; have hfz21_8 := blk_frozen BK214.out 8; have hfz21_9 := blk_frozen BK214.out 9; have hcz22_0 : w19.cell? ⟨gb201, 0, none⟩ = some (.int .i64 t191) := (blk_cell BK201.out 0).trans rfl; have hcz22_1 : w19.cell? ⟨gb201, 1, none⟩ = some (.int .i64 t192) := (blk_cell BK201.out 1).trans rfl; have hcz22_2 : w19.cell? ⟨gb201, 2, none⟩ = some (.bool t193) := (blk_cell BK201.out 2).trans rfl; have hcz22_3 : w19.cell? ⟨gb201, 3, none⟩ = some (.bool t194) := (blk_cell BK201.out 3).trans rfl; have hcz22_4 : w19.cell? ⟨gb201, 4, none⟩ = some (.int .i64 t195) := (blk_cell BK201.out 4).trans rfl; have hcz22_5 : w19.cell? ⟨gb201, 5, none⟩ = some (.int .i64 t196) := (blk_cell BK201.out 5).trans rfl; have hcz22_6 : w19.cell? ⟨gb201, 6, none⟩ = some (.int .i64 t197) := (blk_cell BK201.out 6).trans rfl; have hcz22_7 : w19.cell? ⟨gb201, 7, none⟩ = some (.int .i64 t198) := (blk_cell BK201.out 7).trans rfl; have hcz22_8 : w19.cell? ⟨gb201, 8, none⟩ = some (.int .i64 t199) := (blk_cell BK201.out 8).trans rfl; have hcz22_9 : w19.cell? ⟨gb201, 9, none⟩ = some (.int .i64 t200) := (blk_cell BK201.out 9).trans rfl; have hfz22_0 := blk_frozen BK201.out 0; have hfz22_1 := blk_frozen BK201.out 1; have hfz22_2 := blk_frozen BK201.out 2; have hfz22_3 := blk_frozen BK201.out 3; have hfz22_4 := blk_frozen BK201.out 4; have hfz22_5 := blk_frozen BK201.out 5; have hfz22_6 := blk_frozen BK201.out 6; have hfz22_7 := blk_frozen BK201.out 7; have hfz22_8 := blk_frozen BK201.out 8; have hfz22_9 := blk_frozen BK201.out 9) | ((with_reducible refine gate_callee (f := 11) rfl ?_); refine goesL_ (some 12) rfl rfl Try.func11 (by kernel_rfl) rfl #[.agg #[.int .i64 t191, .int .i64 t192, .bool t193, .bool t194, .int .i64 t195, .int .i64 t196, .int .i64 t197, .int .i64 t198, .int .i64 t199, .int .i64 t200]] rfl (by (try simp only [List.map_toArray, List.map_cons, List.map_nil]); first | done | rfl | (simp only [List.length_drop, List.length_take]; rfl)) ?_; (with_reducible refine (format_Valid.calls t191 t192 t193 t194 t195 t196 t197 t198 t199 t200 true _ A4.out).mono ?_); rintro e w23 ⟨rfl, hb⟩; refine ⟨_, rfl, ?_⟩; have n0_ := Aside0.mk (blk_below (g := gb201) (o := .cells #[.int .i64 t191, .int .i64 t192, .bool t193, .bool t194, .int .i64 t195, .int .i64 t196, .int .i64 t197, .int .i64 t198, .int .i64 t199, .int .i64 t200] 23 (0, 0)) (by (with_reducible repeat (first | refine blk_drewN ?_ _ | refine blk_drew ?_ | refine blk_alloc ?_ _)); refine blk_far ?_ NB201_214.out _; (with_reducible repeat (first | refine blk_drewN ?_ _ | refine blk_drew ?_ | refine blk_alloc ?_ _)); refine blk_far ?_ NB201_214.out _; (with_reducible repeat (first | refine blk_drewN ?_ _ | refine blk_drew ?_ | refine blk_alloc ?_ _)); refine blk_far ?_ NB201_214.out _; (with_reducible repeat (first | refine blk_drewN ?_ _ | refine blk_drew ?_ | refine blk_alloc ?_ _)); refine blk_far ?_ NB201_214.out _; (with_reducible repeat (first | refine blk_drewN ?_ _ | refine blk_drew ?_ | refine blk_alloc ?_ _)); refine blk_far ?_ NB201_214.out _; (with_reducible repeat (first | refine blk_drewN ?_ _ | refine blk_drew ?_ | refine blk_alloc ?_ _)); refine blk_far ?_ NB201_214.out _; (with_reducible repeat (first | refine blk_drewN ?_ _ | refine blk_drew ?_ | refine blk_alloc ?_ _)); refine blk_far ?_ NB201_214.out _; (with_reducible repeat (first | refine blk_drewN ?_ _ | refine blk_drew ?_ | refine blk_alloc ?_ _)); refine blk_far ?_ NB201_214.out _; (with_reducible repeat (first | refine blk_drewN ?_ _ | refine blk_drew ?_ | refine blk_alloc ?_ _)); refine blk_far ?_ NB201_214.out _; (with_reducible repeat (first | refine blk_drewN ?_ _ | refine blk_drew ?_ | refine blk_alloc ?_ _)); refine blk_far ?_ NB201_214.out _; (with_reducible repeat (first | refine blk_drewN ?_ _ | refine blk_drew ?_ | refine blk_alloc ?_ _)); exact BK201.out) hb); have n1_ := Aside0.mk (blk_below (g := gb214) (o := .cells #[.int .i64 t203, .int .i64 t204, .bool t205, .bool t206, .int .i64 t207, .int .i64 t208, .int .i64 t209, .int .i64 t210, .int .i64 t211, .int .i64 t212] 23 (0, 0)) (by (with_reducible repeat (first | refine blk_drewN ?_ _ | refine blk_drew ?_ | refine blk_alloc ?_ _)); refine blk_put (cs := #[.int .i64 t203, .int .i64 t204, .bool t205, .bool t206, .int .i64 t207, .int .i64 t208, .int .i64 t209, .int .i64 t210, .int .i64 t211, .int .i64 0]) ?_ 9 _ rfl; (with_reducible repeat (first | refine blk_drewN ?_ _ | refine blk_drew ?_ | refine blk_alloc ?_ _)); refine blk_put (cs := #[.int .i64 t203, .int .i64 t204, .bool t205, .bool t206, .int .i64 t207, .int .i64 t208, .int .i64 t209, .int .i64 t210, .int .i64 0, .int .i64 0]) ?_ 8 _ rfl; (with_reducible repeat (first | refine blk_drewN ?_ _ | refine blk_drew ?_ | refine blk_alloc ?_ _)); refine blk_put (cs := #[.int .i64 t203, .int .i64 t204, .bool t205, .bool t206, .int .i64 t207, .int .i64 t208, .int .i64 t209, .int .i64 0, .int .i64 0, .int .i64 0]) ?_ 7 _ rfl; (with_reducible repeat (first | refine blk_drewN ?_ _ | refine blk_drew ?_ | refine blk_alloc ?_ _)); refine blk_put (cs := #[.int .i64 t203, .int .i64 t204, .bool t205, .bool t206, .int .i64 t207, .int .i64 t208, .int .i64 0, .int .i64 0, .int .i64 0, .int .i64 0]) ?_ 6 _ rfl; (with_reducible repeat (first | refine blk_drewN ?_ _ | refine blk_drew ?_ | refine blk_alloc ?_ _)); refine blk_put (cs := #[.int .i64 t203, .int .i64 t204, .bool t205, .bool t206, .int .i64 t207, .int .i64 0, .int .i64 0, .int .i64 0, .int .i64 0, .int .i64 0]) ?_ 5 _ rfl; (with_reducible repeat (first | refine blk_drewN ?_ _ | refine blk_drew ?_ | refine blk_alloc ?_ _)); refine blk_put (cs := #[.int .i64 t203, .int .i64 t204, .bool t205, .bool t206, .int .i64 0, .int .i64 0, .int .i64 0, .int .i64 0, .int .i64 0, .int .i64 0]) ?_ 4 _ rfl; (with_reducible repeat (first | refine blk_drewN ?_ _ | refine blk_drew ?_ | refine blk_alloc ?_ _)); refine blk_put (cs := #[.int .i64 t203, .int .i64 t204, .bool t205, .bool false, .int .i64 0, .int .i64 0, .int .i64 0, .int .i64 0, .int .i64 0, .int .i64 0]) ?_ 3 _ rfl; (with_reducible repeat (first | refine blk_drewN ?_ _ | refine blk_drew ?_ | refine blk_alloc ?_ _)); refine blk_put (cs := #[.int .i64 t203, .int .i64 t204, .bool false, .bool false, .int .i64 0, .int .i64 0, .int .i64 0, .int .i64 0, .int .i64 0, .int .i64 0]) ?_ 2 _ rfl; (with_reducible repeat (first | refine blk_drewN ?_ _ | refine blk_drew ?_ | refine blk_alloc ?_ _)); refine blk_put (cs := #[.int .i64 t203, .int .i64 0, .bool false, .bool false, .int .i64 0, .int .i64 0, .int .i64 0, .int .i64 0, .int .i64 0, .int .i64 0]) ?_ 1 _ rfl; (with_reducible repeat (first | refine blk_drewN ?_ _ | refine blk_drew ?_ | refine blk_alloc ?_ _)); refine blk_put (cs := #[.int .i64 0, .int .i64 0, .bool false, .bool false, .int .i64 0, .int .i64 0, .int .i64 0, .int .i64 0, .int .i64 0, .int .i64 0]) ?_ 0 _ rfl; (with_reducible repeat (first | refine blk_drewN ?_ _ | refine blk_drew ?_ | refine blk_alloc ?_ _)); exact BK214.out) hb); have n2_ := Aside0.mk (below_step (by repeat (first | (with_reducible first | exact HB.out | apply below_alloc | apply pw_below_drewN | apply below_drew1 | refine below_set ?_ GE201.out | refine below_set ?_ GE214.out) | exact HB.out)) hb); clear BK201; clear BK214; clear HB; have BK201 := n0_; have BK214 := n1_; have HB := n2_; clear n0_ n1_ n2_; (try clear hb); (try clear hb2); (try clear hk); (try clear hi); have hcz24_0 : w23.cell? ⟨gb201, 0, none⟩ = some (.int .i64 t191) := (blk_cell BK201.out 0).trans rfl; have hcz24_1 : w23.cell? ⟨gb201, 1, none⟩ = some (.int .i64 t192) := (blk_cell BK201.out 1).trans rfl; have hcz24_2 : w23.cell? ⟨gb201, 2, none⟩ = some (.bool t193) := (blk_cell BK201.out 2).trans rfl; have hcz24_3 : w23.cell? ⟨gb201, 3, none⟩ = some (.bool t194) := (blk_cell BK201.out 3).trans rfl; have hcz24_4 : w23.cell? ⟨gb201, 4, none⟩ = some (.int .i64 t195) := (blk_cell BK201.out 4).trans rfl; have hcz24_5 : w23.cell? ⟨gb201, 5, none⟩ = some (.int .i64 t196) := (blk_cell BK201.out 5).trans rfl; have hcz24_6 : w23.cell? ⟨gb201, 6, none⟩ = some (.int .i64 t197) := (blk_cell BK201.out 6).trans rfl; have hcz24_7 : w23.cell? ⟨gb201, 7, none⟩ = some (.int .i64 t198) := (blk_cell BK201.out 7).trans rfl; have hcz24_8 : w23.cell? ⟨gb201, 8, none⟩ = some (.int .i64 t199) := (blk_cell BK201.out 8).trans rfl; have hcz24_9 : w23.cell? ⟨gb201, 9, none⟩ = some (.int .i64 t200) := (blk_cell BK201.out 9).trans rfl; have hfz24_0 := blk_frozen BK201.out 0; have hfz24_1 := blk_frozen BK201.out 1; have hfz24_2 := blk_frozen BK201.out 2; have hfz24_3 := blk_frozen BK201.out 3; have hfz24_4 := blk_frozen BK201.out 4; have hfz24_5 := blk_frozen BK201.out 5; have hfz24_6 := blk_frozen BK201.out 6; have hfz24_7 := blk_frozen BK201.out 7; have hfz24_8 := blk_frozen BK201.out 8; have hfz24_9 := blk_frozen BK201.out 9) | (go_at_call 19; (with_reducible refine (format_Value.calls t191 t192 t193 t194 t195 t196 t197 t198 t199 t200 16744448 t216 _ A6.out).mono ?_); rintro e w25 ⟨rfl, hb⟩; have n0_ := Aside0.mk (blk_below (g := gb201) (o := .cells #[.int .i64 t191, .int .i64 t192, .bool t193, .bool t194, .int .i64 t195, .int .i64 t196, .int .i64 t197, .int .i64 t198, .int .i64 t199, .int .i64 t200] 23 (0, 0)) (by (with_reducible repeat (first | refine blk_drewN ?_ _ | refine blk_drew ?_ | refine blk_alloc ?_ _)); exact BK201.out) hb); have n1_ := Aside0.mk (blk_below (g := gb214) (o := .cells #[.int .i64 t203, .int .i64 t204, .bool t205, .bool t206, .int .i64 t207, .int .i64 t208, .int .i64 t209, .int .i64 t210, .int .i64 t211, .int .i64 t212] 23 (0, 0)) (by (with_reducible repeat (first | refine blk_drewN ?_ _ | refine blk_drew ?_ | refine blk_alloc ?_ _)); exact BK214.out) hb); have n2_ := Aside0.mk (below_step (by repeat (first | (with_reducible first | exact HB.out | apply below_alloc | apply pw_below_drewN | apply below_drew1 | refine below_set ?_ GE201.out | refine below_set ?_ GE214.out) | exact HB.out)) hb); clear BK201; clear BK214; clear HB; have BK201 := n0_; have BK214 := n1_; have HB := n2_; clear n0_ n1_ n2_; (try clear hb); (try clear hb2); (try clear hk); (try clear hi); have hcz26_0 : w25.cell? ⟨gb201, 0, none⟩ = some (.int .i64 t191) := (blk_cell BK201.out 0).trans rfl; have hcz26_1 : w25.cell? ⟨gb201, 1, none⟩ = some (.int .i64 t192) := (blk_cell BK201.out 1).trans rfl; have hcz26_2 : w25.cell? ⟨gb201, 2, none⟩ = some (.bool t193) := (blk_cell BK201.out 2).trans rfl; have hcz26_3 : w25.cell? ⟨gb201, 3, none⟩ = some (.bool t194) := (blk_cell BK201.out 3).trans rfl; have hcz26_4 : w25.cell? ⟨gb201, 4, none⟩ = some (.int .i64 t195) := (blk_cell BK201.out 4).trans rfl; have hcz26_5 : w25.cell? ⟨gb201, 5, none⟩ = some (.int .i64 t196) := (blk_cell BK201.out 5).trans rfl; have hcz26_6 : w25.cell? ⟨gb201, 6, none⟩ = some (.int .i64 t197) := (blk_cell BK201.out 6).trans rfl; have hcz26_7 : w25.cell? ⟨gb201, 7, none⟩ = some (.int .i64 t198) := (blk_cell BK201.out 7).trans rfl; have hcz26_8 : w25.cell? ⟨gb201, 8, none⟩ = some (.int .i64 t199) := (blk_cell BK201.out 8).trans rfl; have hcz26_9 : w25.cell? ⟨gb201, 9, none⟩ = some (.int .i64 t200) := (blk_cell BK201.out 9).trans rfl; have hfz26_0 := blk_frozen BK201.out 0; have hfz26_1 := blk_frozen BK201.out 1; have hfz26_2 := blk_frozen BK201.out 2; have hfz26_3 := blk_frozen BK201.out 3; have hfz26_4 := blk_frozen BK201.out 4; have hfz26_5 := blk_frozen BK201.out 5; have hfz26_6 := blk_frozen BK201.out 6; have hfz26_7 := blk_frozen BK201.out 7; have hfz26_8 := blk_frozen BK201.out 8; have hfz26_9 := blk_frozen BK201.out 9) | (go_at_call 17; (with_reducible refine (format_Quant.calls t191 t192 t193 t194 t195 t196 t197 t198 t199 t200 16744448 t217 _ A8.out).mono ?_); rintro e w27 ⟨rfl, hb⟩; have n0_ := Aside0.mk (blk_below (g := gb201) (o := .cells #[.int .i64 t191, .int .i64 t192, .bool t193, .bool t194, .int .i64 t195, .int .i64 t196, .int .i64 t197, .int .i64 t198, .int .i64 t199, .int .i64 t200] 23 (0, 0)) (by (with_reducible repeat (first | refine blk_drewN ?_ _ | refine blk_drew ?_ | refine blk_alloc ?_ _)); exact BK201.out) hb); have n1_ := Aside0.mk (blk_below (g := gb214) (o := .cells #[.int .i64 t203, .int .i64 t204, .bool t205, .bool t206, .int .i64 t207, .int .i64 t208, .int .i64 t209, .int .i64 t210, .int .i64 t211, .int .i64 t212] 23 (0, 0)) (by (with_reducible repeat (first | refine blk_drewN ?_ _ | refine blk_drew ?_ | refine blk_alloc ?_ _)); exact BK214.out) hb); have n2_ := Aside0.mk (below_step (by repeat (first | (with_reducible first | exact HB.out | apply below_alloc | apply pw_below_drewN | apply below_drew1 | refine below_set ?_ GE201.out | refine below_set ?_ GE214.out) | exact HB.out)) hb); clear BK201; clear BK214; clear HB; have BK201 := n0_; have BK214 := n1_; have HB := n2_; clear n0_ n1_ n2_; (try clear hb); (try clear hb2); (try clear hk); (try clear hi); have hcz28_0 : w27.cell? ⟨gb214, 0, none⟩ = some (.int .i64 t203) := (blk_cell BK214.out 0).trans rfl; have hcz28_1 : w27.cell? ⟨gb214, 1, none⟩ = some (.int .i64 t204) := (blk_cell BK214.out 1).trans rfl; have hcz28_2 : w27.cell? ⟨gb214, 2, none⟩ = some (.bool t205) := (blk_cell BK214.out 2).trans rfl; have hcz28_3 : w27.cell? ⟨gb214, 3, none⟩ = some (.bool t206) := (blk_cell BK214.out 3).trans rfl; have hcz28_4 : w27.cell? ⟨gb214, 4, none⟩ = some (.int .i64 t207) := (blk_cell BK214.out 4).trans rfl; have hcz28_5 : w27.cell? ⟨gb214, 5, none⟩ = some (.int .i64 t208) := (blk_cell BK214.out 5).trans rfl; have hcz28_6 : w27.cell? ⟨gb214, 6, none⟩ = some (.int .i64 t209) := (blk_cell BK214.out 6).trans rfl; have hcz28_7 : w27.cell? ⟨gb214, 7, none⟩ = some (.int .i64 t210) := (blk_cell BK214.out 7).trans rfl; have hcz28_8 : w27.cell? ⟨gb214, 8, none⟩ = some (.int .i64 t211) := (blk_cell BK214.out 8).trans rfl; have hcz28_9 : w27.cell? ⟨gb214, 9, none⟩ = some (.int .i64 t212) := (blk_cell BK214.out 9).trans rfl; have hfz28_0 := blk_frozen BK214.out 0; have hfz28_1 := blk_frozen BK214.out 1; have hfz28_2 := blk_frozen BK214.out 2; have hfz28_3 := blk_frozen BK214.out 3; have hfz28_4 := blk_frozen BK214.out 4; have hfz28_5 := blk_frozen BK214.out 5; have hfz28_6 := blk_frozen BK214.out 6; have hfz28_7 := blk_frozen BK214.out 7; have hfz28_8 := blk_frozen BK214.out 8; have hfz28_9 := blk_frozen BK214.out 9; have hcz29_0 : w27.cell? ⟨gb201, 0, none⟩ = some (.int .i64 t191) := (blk_cell BK201.out 0).trans rfl; have hcz29_1 : w27.cell? ⟨gb201, 1, none⟩ = some (.int .i64 t192) := (blk_cell BK201.out 1).trans rfl; have hcz29_2 : w27.cell? ⟨gb201, 2, none⟩ = some (.bool t193) := (blk_cell BK201.out 2).trans rfl; have hcz29_3 : w27.cell? ⟨gb201, 3, none⟩ = some (.bool t194) := (blk_cell BK201.out 3).trans rfl; have hcz29_4 : w27.cell? ⟨gb201, 4, none⟩ = some (.int .i64 t195) := (blk_cell BK201.out 4).trans rfl; have hcz29_5 : w27.cell? ⟨gb201, 5, none⟩ = some (.int .i64 t196) := (blk_cell BK201.out 5).trans rfl; have hcz29_6 : w27.cell? ⟨gb201, 6, none⟩ = some (.int .i64 t197) := (blk_cell BK201.out 6).trans rfl; have hcz29_7 : w27.cell? ⟨gb201, 7, none⟩ = some (.int .i64 t198) := (blk_cell BK201.out 7).trans rfl; have hcz29_8 : w27.cell? ⟨gb201, 8, none⟩ = some (.int .i64 t199) := (blk_cell BK201.out 8).trans rfl; have hcz29_9 : w27.cell? ⟨gb201, 9, none⟩ = some (.int .i64 t200) := (blk_cell BK201.out 9).trans rfl; have hfz29_0 := blk_frozen BK201.out 0; have hfz29_1 := blk_frozen BK201.out 1; have hfz29_2 := blk_frozen BK201.out 2; have hfz29_3 := blk_frozen BK201.out 3; have hfz29_4 := blk_frozen BK201.out 4; have hfz29_5 := blk_frozen BK201.out 5; have hfz29_6 := blk_frozen BK201.out 6; have hfz29_7 := blk_frozen BK201.out 7; have hfz29_8 := blk_frozen BK201.out 8; have hfz29_9 := blk_frozen BK201.out 9) | (go_at_call 15; (with_reducible refine (format_Standard.calls  t218 t219 t220 t221 t222 t223 t224 t225 t226 t227 _ A12.out).mono ?_); rintro e w30 ⟨rfl, hb⟩; have n0_ := Aside0.mk (blk_below (g := gb201) (o := .cells #[.int .i64 t191, .int .i64 t192, .bool t193, .bool t194, .int .i64 t195, .int .i64 t196, .int .i64 t197, .int .i64 t198, .int .i64 t199, .int .i64 t200] 23 (0, 0)) (by (with_reducible repeat (first | refine blk_drewN ?_ _ | refine blk_drew ?_ | refine blk_alloc ?_ _)); exact BK201.out) hb); have n1_ := Aside0.mk (blk_below (g := gb214) (o := .cells #[.int .i64 t203, .int .i64 t204, .bool t205, .bool t206, .int .i64 t207, .int .i64 t208, .int .i64 t209, .int .i64 t210, .int .i64 t211, .int .i64 t212] 23 (0, 0)) (by (with_reducible repeat (first | refine blk_drewN ?_ _ | refine blk_drew ?_ | refine blk_alloc ?_ _)); exact BK214.out) hb); have n2_ := Aside0.mk (below_step (by repeat (first | (with_reducible first | exact HB.out | apply below_alloc | apply pw_below_drewN | apply below_drew1 | refine below_set ?_ GE201.out | refine below_set ?_ GE214.out) | exact HB.out)) hb); clear BK201; clear BK214; clear HB; have BK201 := n0_; have BK214 := n1_; have HB := n2_; clear n0_ n1_ n2_; (try clear hb); (try clear hb2); (try clear hk); (try clear hi)) | (go_at_call 17; (with_reducible refine (format_Quant.calls t218 t219 t220 t221 t222 t223 t224 t225 t226 t227 1193046 t228 _ A13.out).mono ?_); rintro e w31 ⟨rfl, hb⟩; have n0_ := Aside0.mk (blk_below (g := gb201) (o := .cells #[.int .i64 t191, .int .i64 t192, .bool t193, .bool t194, .int .i64 t195, .int .i64 t196, .int .i64 t197, .int .i64 t198, .int .i64 t199, .int .i64 t200] 23 (0, 0)) (by (with_reducible repeat (first | refine blk_drewN ?_ _ | refine blk_drew ?_ | refine blk_alloc ?_ _)); exact BK201.out) hb); have n1_ := Aside0.mk (blk_below (g := gb214) (o := .cells #[.int .i64 t203, .int .i64 t204, .bool t205, .bool t206, .int .i64 t207, .int .i64 t208, .int .i64 t209, .int .i64 t210, .int .i64 t211, .int .i64 t212] 23 (0, 0)) (by (with_reducible repeat (first | refine blk_drewN ?_ _ | refine blk_drew ?_ | refine blk_alloc ?_ _)); exact BK214.out) hb); have n2_ := Aside0.mk (below_step (by repeat (first | (with_reducible first | exact HB.out | apply below_alloc | apply pw_below_drewN | apply below_drew1 | refine below_set ?_ GE201.out | refine below_set ?_ GE214.out) | exact HB.out)) hb); clear BK201; clear BK214; clear HB; have BK201 := n0_; have BK214 := n1_; have HB := n2_; clear n0_ n1_ n2_; (try clear hb); (try clear hb2); (try clear hk); (try clear hi)))
            go_ret
            exact ⟨by first | rfl | (simp [errW_none, errW_some] <;> rfl) | (simp [*, errW_none, errW_some] <;> rfl), by repeat (first | (with_reducible first | exact HB.out | apply below_alloc | apply pw_below_drewN | apply below_drew1 | refine below_set ?_ GE201.out | refine below_set ?_ GE214.out) | exact HB.out)⟩
          · rw [if_neg c11] at H
            have c11b0 : (t213 == 0) = false := beq_eq_false_iff_ne.mpr c11
            have c11b1 : (t213 != 0) = true := bne_iff_ne.mpr c11
            rw [HRT.out] at H
            exact absurd (Option.some.inj H) (by decide)
        · rw [if_neg c10] at H
          have c10b0 : (t203 == t191 && (t204 == t192 && (t205 == t193 && (t206 == t194 && (t207 == t195 && (t208 == t196 && (t209 == t197 && (t210 == t198 && (t211 == t199 && (t212 == t200)))))))))) = false := by simpa using c10
          (try (have c10b1 : decide (t203 = t191 && (t204 == t192 && (t205 == t193 && (t206 == t194 && (t207 == t195 && (t208 == t196 && (t209 == t197 && (t210 == t198 && (t211 == t199 && (t212 == t200)))))))))) = false := by simpa using c10))
          (try (have c10b2 : (t203 == t191 && (t204 == t192 && (t205 == t193 && (t206 == t194 && (t207 == t195 && (t208 == t196 && (t209 == t197 && (t210 == t198 && (t211 == t199 && (t212 == t200)))))))))) = false := by simpa using c10))
          (try (have c10b3 : ¬ (t203 = t191 && (t204 == t192 && (t205 == t193 && (t206 == t194 && (t207 == t195 && (t208 == t196 && (t209 == t197 && (t210 == t198 && (t211 == t199 && (t212 == t200)))))))))) := by simpa using c10))
          clear c10
          rw [HRT.out] at H
          exact absurd (Option.some.inj H) (by decide)
      · rw [if_neg c9] at H
        have c9b0 : (t217 == 16744960) = false := beq_eq_false_iff_ne.mpr c9
        have c9b1 : (t217 != 16744960) = true := bne_iff_ne.mpr c9
        rw [HRT.out] at H
        exact absurd (Option.some.inj H) (by decide)
    · rw [if_neg c7] at H
      have c7b0 : (t216 == 64512) = false := beq_eq_false_iff_ne.mpr c7
      have c7b1 : (t216 != 64512) = true := bne_iff_ne.mpr c7
      rw [HRT.out] at H
      exact absurd (Option.some.inj H) (by decide)
  · replace c5 := Bool.eq_false_iff.mpr c5
    subst c5
    have H1 : (some false) = some r := by rw [if_neg (show ¬ (false = true) by decide)] at H; exact H
    clear H
    have H := H1
    clear H1
    rw [HRT.out] at H
    exact absurd (Option.some.inj H) (by decide)
theorem miradorlaw13_works.at0 : miradorlaw13_works.f = some true := by first | kernel_rfl | decide +kernel
theorem miradorlaw13_works.true_ (r : Bool) (h : miradorlaw13_works.f = some r) : r = true := Option.some.inj (h.symm.trans miradorlaw13_works.at0)
theorem miradorlaw13_works.calls  (r : Bool) (w : World) (h : miradorlaw13_works.f  = some r) :
    Calls Try.prog 8 #[] w fun e w' => e = .returned (.bool r) ∧ Below w.heap.size w w' := miradorlaw13_works.calls1 r w (miradorlaw13_works.true_ r h) h

/-! ### miradorref13_Width: function 54 -/
def miradorref13_Width.l0 : Nat → Int → Int → Int → Option (Int)
  | 0, _, _, _ => none
  | k + 1, x0, x3, x4 => if x4 ≤ 16 then (if x0 = (wrap64 ((wrap64 (x3 * 2)) - 1)) then (some x4) else (miradorref13_Width.l0 k x0 (wrap64 (x3 * 2)) (wrap64 (x4 + 1)))) else (some 0)
def miradorref13_Width.f (k : Nat) (a0 : Int) : Option (Int) := miradorref13_Width.l0 k a0 1 1
theorem miradorref13_Width.mono_l : ∀ k, (∀ y0 y1 y2, LeO (miradorref13_Width.l0 k y0 y1 y2) (miradorref13_Width.l0 (k + 1) y0 y1 y2))
  | 0 => fun _ _ _ r h => by simp [miradorref13_Width.l0] at h
  | k + 1 => by
    have ih0 := miradorref13_Width.mono_l k
    · intro y0 y1 y2
      unfold miradorref13_Width.l0
      repeat' first
      | (with_reducible exact ih0 _ _ _)
      | (with_reducible exact LeO.refl _)
      | (with_reducible exact LeO.none _)
      | (with_reducible refine LeO.ite ?_ ?_)
      | (with_reducible refine LeO.bind ?_ (fun _ => ?_))
      | exact ih0 _ _ _
      | exact LeO.none _
      | refine LeO.ite ?_ ?_
      | refine LeO.bind ?_ (fun _ => ?_)
theorem miradorref13_Width.mono : ∀ a0 k, LeO (miradorref13_Width.f k a0) (miradorref13_Width.f (k + 1) a0) := by
  intro a0 k
  have ih0 := miradorref13_Width.mono_l k
  unfold miradorref13_Width.f
  repeat' first
      | (with_reducible exact ih0 _ _ _)
      | (with_reducible exact LeO.refl _)
      | (with_reducible exact LeO.none _)
      | (with_reducible refine LeO.ite ?_ ?_)
      | (with_reducible refine LeO.bind ?_ (fun _ => ?_))
      | exact ih0 _ _ _
      | exact LeO.none _
      | refine LeO.ite ?_ ?_
      | refine LeO.bind ?_ (fun _ => ?_)
set_option maxHeartbeats 8000000 in
set_option maxRecDepth 100000 in
theorem miradorref13_Width.calls (k : Nat) (a0 : Int) (r : Int) (w : World) (h : miradorref13_Width.f k a0 = some r) :
    Calls Try.prog 54 #[.int .i64 a0] w fun e w' => e = .returned (.int .i64 r) ∧ Drawn0 w w' := by
  have H : (miradorref13_Width.l0 k a0 1 1) = some r := h
  clear h
  have H' := Aside0.mk H
  clear H
  go_enter Try.func54, Try.ntmps54
  go_wp2
  go_loopg [3, 4] k (fun kq v3 v4 w' => ∃ (x3_1 : Int) (x4_1 : Int), v3 = .int .i64 x3_1 ∧ v4 = .int .i64 x4_1 ∧ Aside0 (miradorref13_Width.l0 kq a0 x3_1 x4_1 = some r) ∧ Aside0 (kq ≤ k) ∧ Drawn0 w w')
  case atStart => exact ⟨(1), (1), (by first | rfl | (simp; done) | (simp [*]; done)), (by first | rfl | (simp; done) | (simp [*]; done)), H', ⟨Nat.le_refl _⟩, by repeat (first | exact Drawn0.refl _ | apply Drawn0.step)⟩
  case round =>
    clear H'
    obtain ⟨x3_1, x4_1, rfl, rfl, HA, HK1, ⟨m1, rfl⟩⟩ := hrel
    cases gk with
    | zero => exact absurd HA.out (by simp [miradorref13_Width.l0])
    | succ k1 =>
      have H := HA.out
      clear HA
      simp only [miradorref13_Width.l0] at H
      by_cases c2 : x4_1 ≤ 16
      · rw [if_pos c2] at H
        have c2b0 : decide (x4_1 ≤ 16) = true := decide_eq_true c2
        clear c2
        by_cases c3 : a0 = (wrap64 ((wrap64 (x3_1 * 2)) - 1))
        · rw [if_pos c3] at H
          have c3b0 : (a0 == (wrap64 ((wrap64 (x3_1 * 2)) - 1))) = true := beq_iff_eq.mpr c3
          have c3b1 : (a0 != (wrap64 ((wrap64 (x3_1 * 2)) - 1))) = false := bne_eq_false_iff_eq.mpr c3
          clear c3
          obtain rfl := Option.some.inj H
          go_wp2
          go_ret
          exact ⟨by first | rfl | (simp; done) | (simp [*]; done), by repeat (first | exact Drawn0.refl _ | apply Drawn0.step)⟩
        · rw [if_neg c3] at H
          have c3b0 : (a0 == (wrap64 ((wrap64 (x3_1 * 2)) - 1))) = false := beq_eq_false_iff_ne.mpr c3
          have c3b1 : (a0 != (wrap64 ((wrap64 (x3_1 * 2)) - 1))) = true := bne_iff_ne.mpr c3
          have H' := Aside0.mk H
          clear H
          go_wp2
          go_roundg k1
          case measure => have := HK1.out; omega
          case rel => exact ⟨(wrap64 (x3_1 * 2)), (wrap64 (x4_1 + 1)), (by first | rfl | (simp; done) | (simp [*]; done)), (by first | rfl | (simp; done) | (simp [*]; done)), H', ⟨by have := HK1.out; omega⟩, by repeat (first | exact Drawn0.refl _ | apply Drawn0.step)⟩
      · rw [if_neg c2] at H
        have c2b0 : decide (x4_1 ≤ 16) = false := decide_eq_false c2
        clear c2
        obtain rfl := Option.some.inj H
        go_wp2
        go_ret
        exact ⟨by first | rfl | (simp; done) | (simp [*]; done), by repeat (first | exact Drawn0.refl _ | apply Drawn0.step)⟩

/-! ### miradorref13_part: function 39 -/
def miradorref13_part.f (k : Nat) (a0 : Int) (a1 : Int) (a2 : Int) : Option (Bool) := (miradorref13_Width.f k a1).bind fun t229 => (if t229 > 0 then (if a2 ≥ 0 then (if a2 ≤ 32 then (some (decide ((wrap64 (a2 + t229)) ≤ a0))) else (some false)) else (some false)) else (some false))
theorem miradorref13_part.mono : ∀ a0 a1 a2 k, LeO (miradorref13_part.f k a0 a1 a2) (miradorref13_part.f (k + 1) a0 a1 a2) := by
  intro a0 a1 a2 k
  unfold miradorref13_part.f
  repeat' first
      | (with_reducible exact miradorref13_Width.mono _ _)
      | (with_reducible exact LeO.refl _)
      | (with_reducible exact LeO.none _)
      | (with_reducible refine LeO.ite ?_ ?_)
      | (with_reducible refine LeO.bind ?_ (fun _ => ?_))
      | exact miradorref13_Width.mono _ _
      | exact LeO.none _
      | refine LeO.ite ?_ ?_
      | refine LeO.bind ?_ (fun _ => ?_)
set_option maxHeartbeats 8000000 in
set_option maxRecDepth 100000 in
theorem miradorref13_part.calls (k : Nat) (a0 : Int) (a1 : Int) (a2 : Int) (r : Bool) (w : World) (h : miradorref13_part.f k a0 a1 a2 = some r) :
    Calls Try.prog 39 #[.int .i64 a0, .int .i64 a1, .int .i64 a2] w fun e w' => e = .returned (.bool r) ∧ Drawn0 w w' := by
  have H : ((miradorref13_Width.f k a1).bind fun t229 => (if t229 > 0 then (if a2 ≥ 0 then (if a2 ≤ 32 then (some (decide ((wrap64 (a2 + t229)) ≤ a0))) else (some false)) else (some false)) else (some false))) = some r := h
  clear h
  replace H := Option.bind_eq_some_iff.mp H
  obtain ⟨t229, A40, H⟩ := H
  replace H : (if t229 > 0 then (if a2 ≥ 0 then (if a2 ≤ 32 then (some (decide ((wrap64 (a2 + t229)) ≤ a0))) else (some false)) else (some false)) else (some false)) = some r := H
  have A4 := Aside0.mk A40
  clear A40
  by_cases c5 : t229 > 0
  · rw [if_pos c5] at H
    have c5b0 : decide (0 < t229) = true := decide_eq_true c5
    clear c5
    by_cases c6 : a2 ≥ 0
    · rw [if_pos c6] at H
      have c6b0 : decide (0 ≤ a2) = true := decide_eq_true c6
      clear c6
      by_cases c7 : a2 ≤ 32
      · rw [if_pos c7] at H
        have c7b0 : decide (a2 ≤ 32) = true := decide_eq_true c7
        clear c7
        obtain rfl := Option.some.inj H
        go_enter Try.func39, Try.ntmps39
        go_wp2_with (first | ((with_reducible refine gate_callee (f := 54) rfl ?_); refine goesL_ (some 9) rfl rfl Try.func54 (by kernel_rfl) rfl #[.int .i64 a1] rfl (by (try simp only [List.map_toArray, List.map_cons, List.map_nil]); first | done | rfl | (simp only [List.length_drop, List.length_take]; rfl)) ?_; (with_reducible refine (miradorref13_Width.calls k a1 t229 _ A4.out).mono ?_); rintro e w' ⟨rfl, ⟨nd, rfl⟩⟩; refine ⟨_, rfl, ?_⟩))
        go_ret
        exact ⟨by first | rfl | (simp; done) | (simp [*]; done), by repeat (first | exact Drawn0.refl _ | apply Drawn0.step)⟩
      · rw [if_neg c7] at H
        have c7b0 : decide (a2 ≤ 32) = false := decide_eq_false c7
        clear c7
        obtain rfl := Option.some.inj H
        go_enter Try.func39, Try.ntmps39
        go_wp2_with (first | ((with_reducible refine gate_callee (f := 54) rfl ?_); refine goesL_ (some 9) rfl rfl Try.func54 (by kernel_rfl) rfl #[.int .i64 a1] rfl (by (try simp only [List.map_toArray, List.map_cons, List.map_nil]); first | done | rfl | (simp only [List.length_drop, List.length_take]; rfl)) ?_; (with_reducible refine (miradorref13_Width.calls k a1 t229 _ A4.out).mono ?_); rintro e w' ⟨rfl, ⟨nd, rfl⟩⟩; refine ⟨_, rfl, ?_⟩))
        go_ret
        exact ⟨by first | rfl | (simp; done) | (simp [*]; done), by repeat (first | exact Drawn0.refl _ | apply Drawn0.step)⟩
    · rw [if_neg c6] at H
      have c6b0 : decide (0 ≤ a2) = false := decide_eq_false c6
      clear c6
      obtain rfl := Option.some.inj H
      go_enter Try.func39, Try.ntmps39
      go_wp2_with (first | ((with_reducible refine gate_callee (f := 54) rfl ?_); refine goesL_ (some 9) rfl rfl Try.func54 (by kernel_rfl) rfl #[.int .i64 a1] rfl (by (try simp only [List.map_toArray, List.map_cons, List.map_nil]); first | done | rfl | (simp only [List.length_drop, List.length_take]; rfl)) ?_; (with_reducible refine (miradorref13_Width.calls k a1 t229 _ A4.out).mono ?_); rintro e w' ⟨rfl, ⟨nd, rfl⟩⟩; refine ⟨_, rfl, ?_⟩))
      go_ret
      exact ⟨by first | rfl | (simp; done) | (simp [*]; done), by repeat (first | exact Drawn0.refl _ | apply Drawn0.step)⟩
  · rw [if_neg c5] at H
    have c5b0 : decide (0 < t229) = false := decide_eq_false c5
    clear c5
    obtain rfl := Option.some.inj H
    go_enter Try.func39, Try.ntmps39
    go_wp2_with (first | ((with_reducible refine gate_callee (f := 54) rfl ?_); refine goesL_ (some 9) rfl rfl Try.func54 (by kernel_rfl) rfl #[.int .i64 a1] rfl (by (try simp only [List.map_toArray, List.map_cons, List.map_nil]); first | done | rfl | (simp only [List.length_drop, List.length_take]; rfl)) ?_; (with_reducible refine (miradorref13_Width.calls k a1 t229 _ A4.out).mono ?_); rintro e w' ⟨rfl, ⟨nd, rfl⟩⟩; refine ⟨_, rfl, ?_⟩))
    go_ret
    exact ⟨by first | rfl | (simp; done) | (simp [*]; done), by repeat (first | exact Drawn0.refl _ | apply Drawn0.step)⟩

/-! ### miradorref13_mask: function 40 -/
def miradorref13_mask.f (a0 : Int) (a1 : Int) : Option (Int) := if 0 ≤ a1 then (some (shl .i64 a0 a1)) else (none)
set_option maxHeartbeats 8000000 in
set_option maxRecDepth 100000 in
theorem miradorref13_mask.calls (a0 : Int) (a1 : Int) (r : Int) (w : World) (h : miradorref13_mask.f a0 a1 = some r) :
    Calls Try.prog 40 #[.int .i64 a0, .int .i64 a1] w fun e w' => e = .returned (.int .i64 r) ∧ Drawn0 w w' := by
  have H : (if 0 ≤ a1 then (some (shl .i64 a0 a1)) else (none)) = some r := h
  clear h
  by_cases c3 : 0 ≤ a1
  · rw [if_pos c3] at H
    have c3b0 := eq_true c3
    have c3b1 : decide (0 ≤ a1) = true := decide_eq_true c3
    clear c3
    obtain ⟨ji4, hji4⟩ : ∃ j_ : Int, (shl .i64 a0 a1) = j_ := ⟨_, rfl⟩
    replace H : (some ji4) = some r := by first | (rw [hji4] at H; exact H) | (simp only [hji4] at H ⊢; exact H)
    have hji4_ : (IntKind.i64.wrap (a0 * 2 ^ min a1.toNat 64)) = ji4 := hji4
    have hji4z : a1 ≤ 64 → (IntKind.i64.wrap (a0 * 2 ^ a1.toNat)) = ji4 := shl_small hji4
    have hji4y : (wrap64 (a0 * 2 ^ min a1.toNat 64)) = ji4 := (i64_w _).symm.trans hji4_
    have hji4x : a1 ≤ 64 → (wrap64 (a0 * 2 ^ a1.toNat)) = ji4 := fun h_ => (i64_w _).symm.trans (hji4z h_)
    obtain rfl := Option.some.inj H
    go_enter Try.func40, Try.ntmps40
    go_wp2
    go_ret
    exact ⟨by first | rfl | (simp; done) | (simp only [← hji4] <;> (first | rfl | simp)) | (simp [*]; done), by repeat (first | exact Drawn0.refl _ | apply Drawn0.step)⟩
  · rw [if_neg c3] at H
    exact absurd H (by simp)

end Go.Proofs.Ytaielfghgmghgaa.X
