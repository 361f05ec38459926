/- What each Go function that these laws use answers: as a Lean function, with the proof that the machine's call comes to it. Written by a program of this session (xprint.py). -/
import Derived.Test.YtclikkhkhoicfaaXx0
import Derived.Test.YtclikkhkhoicfaaXx14
import Derived.Test.YtclikkhkhoicfaaXx21
namespace Go.Proofs.Ytclikkhkhoicfaa.X
open Go.RowKit Go.Proofs.YtclikkhkhoicfaaW.PrintWords Go.Proofs.YtclikkhkhoicfaaW.PrintLast Go.Proofs.YtclikkhkhoicfaaW.PrintMore
attribute [local go_sem] max2_int min2_int max_two min_two max_three min_three max_four min_four   -- for this text's walks alone
set_option linter.unusedVariables false
set_option linter.unusedSimpArgs false

/-! ### stringslite_HasPrefix: function 44 -/
def stringslite_HasPrefix.f (a0 : ByteArray) (a1 : ByteArray) : Option (Bool) := if (a0.size : Int) ≥ (a1.size : Int) then (if 0 ≤ (a1.size : Int) then (if (a1.size : Int) ≤ (a0.size : Int) then (some ((a0.extract 0 ((a1.size : Int) : Int).toNat).toList == a1.toList)) else (none)) else (none)) else (some false)
theorem exec_load_L30 (ρ : Operand → Value) (d : Option Tmp) (x : Operand) (ty : TypeId) (ps : String) (af : Array Edge) (gd : Option (Nat × Bool)) (P : Program) (W : World) : (execOp ρ ⟨d, .load 30 x, ty, ps, af, gd⟩).run P W = ldOut P 30 W (ρ x) := rfl
theorem load_L30 (W : World) (g : Nat) (h : rowAt W g 30 19 = true) : ldOut Try.prog 30 W (.pointer (some ⟨g, 0, none⟩)) = .ok (.value (.agg (cellsAt W g))) W := ldOut_any Try.underlying30 rfl (by kernel_rfl) W g h
attribute [local go_sem ↓] exec_load_L30
attribute [local go_sem] load_L30
theorem blk_row {W : World} {g a : Nat} {o : Obj} {cs : Array Value} (h : W.heap[a]? = some o) (hne : a ≠ g) : (W.setRow g cs).heap[a]? = some o := (setRow_other W g a cs hne).trans h
theorem rowAt_row {W : World} {g : Nat} {t : TypeId} {n : Nat} {cs : Array Value} (h : rowAt W g t n = true) (hn : cs.size = n) : rowAt (W.setRow g cs) g t n = true := by
 obtain ⟨old, h1, _⟩ := of_rowAt h
 exact rowAt_of (setRow_heap W g old cs t _ h1) hn
theorem rowAt_row_ne {W : World} {g g' : Nat} {t : TypeId} {n : Nat} {cs : Array Value} (h : g' ≠ g) : rowAt (W.setRow g cs) g' t n = rowAt W g' t n := by unfold rowAt; rw [setRow_other W g g' cs h]
theorem cellsAt_row_ne {W : World} {g g' : Nat} {cs : Array Value} (h : g' ≠ g) : cellsAt (W.setRow g cs) g' = cellsAt W g' := by unfold cellsAt; rw [setRow_other W g g' cs h]
theorem cell_row_ne {W : World} {g g' o : Nat} {cs : Array Value} (h : g' ≠ g) : (W.setRow g cs).cell? ⟨g', o, none⟩ = W.cell? ⟨g', o, none⟩ := by unfold World.cell?; rw [setRow_other W g g' cs h]
theorem exec_store_L30 (ρ : Operand → Value) (d : Option Tmp) (x y : Operand) (ty : TypeId) (ps : String) (af : Array Edge) (gd : Option (Nat × Bool)) (P : Program) (W : World) : (execOp ρ ⟨d, .store 30 x y, ty, ps, af, gd⟩).run P W = stOut P 30 W (ρ x) (ρ y) := rfl
theorem store_L30 (W : World) (g : Nat) (x0 : Int) (x1 : Bool) (x2 : Int) (x3 : Int) (x4 : Int) (x5 : Int) (x6 : Int) (x7 : Int) (x8 : Int) (x9 : Bool) (x10 : Bool) (x11 : Int) (x12 : Int) (x13 : Int) (x14 : Int) (x15 : Int) (x16 : Int) (A17 : Option Addr) (n17 c17 : Nat) (x18 : ByteArray) (h : rowAt W g 30 19 = true) : stOut Try.prog 30 W (.pointer (some ⟨g, 0, none⟩)) (.agg #[.int .i64 x0, .bool x1, .int .i64 x2, .int .i64 x3, .int .i64 x4, .int .i64 x5, .int .i64 x6, .int .i64 x7, .int .i64 x8, .bool x9, .bool x10, .int .i64 x11, .int .i64 x12, .int .i64 x13, .int .i64 x14, .int .i64 x15, .int .i64 x16, .slice A17 n17 c17, .string x18]) = .ok .skip (W.setRow g #[.int .i64 x0, .bool x1, .int .i64 x2, .int .i64 x3, .int .i64 x4, .int .i64 x5, .int .i64 x6, .int .i64 x7, .int .i64 x8, .bool x9, .bool x10, .int .i64 x11, .int .i64 x12, .int .i64 x13, .int .i64 x14, .int .i64 x15, .int .i64 x16, .slice A17 n17 c17, .string x18]) := stOut_any (by kernel_rfl) W g _ rfl (by simp [Value.oneCell']) h
theorem cellsAt_row30 {W : World} {g : Nat} {cs : Array Value} (h : rowAt W g 30 19 = true) : cellsAt (W.setRow g cs) g = cs := by
 obtain ⟨old, h1, _⟩ := of_rowAt h
 exact cellsAt_of (setRow_heap W g old cs _ _ h1)
theorem cell_row30 {W : World} {g o : Nat} {cs : Array Value} (h : rowAt W g 30 19 = true) : (W.setRow g cs).cell? ⟨g, o, none⟩ = cs[o]? := by
 obtain ⟨old, h1, _⟩ := of_rowAt h
 unfold World.cell?
 rw [setRow_heap W g old cs _ _ h1]
 rfl
attribute [local go_sem ↓] exec_store_L30
attribute [local go_sem] rowAt_row rowAt_row_ne cellsAt_row_ne cell_row_ne store_L30 cellsAt_row30 cell_row30
set_option maxHeartbeats 8000000 in
set_option maxRecDepth 100000 in
theorem stringslite_HasPrefix.calls (a0 : ByteArray) (a1 : ByteArray) (r : Bool) (w : World) (h : stringslite_HasPrefix.f a0 a1 = some r) :
    Calls Try.prog 44 #[.string a0, .string a1] w fun e w' => e = .returned (.bool r) ∧ Drawn0 w w' := by
  have H : (if (a0.size : Int) ≥ (a1.size : Int) then (if 0 ≤ (a1.size : Int) then (if (a1.size : Int) ≤ (a0.size : Int) then (some ((a0.extract 0 ((a1.size : Int) : Int).toNat).toList == a1.toList)) else (none)) else (none)) else (some false)) = some r := h
  clear h
  by_cases c3 : (a0.size : Int) ≥ (a1.size : Int)
  · rw [if_pos c3] at H
    have c3b0 : decide ((a1.size : Int) ≤ (a0.size : Int)) = true := decide_eq_true c3
    have c3b1 : decide (a1.size ≤ a0.size) = true := decide_eq_true (Int.ofNat_le.mp c3)
    clear c3
    by_cases c4 : 0 ≤ (a1.size : Int)
    · rw [if_pos c4] at H
      have c4b0 := eq_true c4
      have c4b1 : decide (0 ≤ (a1.size : Int)) = true := decide_eq_true c4
      clear c4
      by_cases c5 : (a1.size : Int) ≤ (a0.size : Int)
      · rw [if_pos c5] at H
        have c5b0 := eq_true c5
        have c5b1 : decide ((a1.size : Int) ≤ (a0.size : Int)) = true := decide_eq_true c5
        clear c5
        obtain rfl := Option.some.inj H
        go_enter Try.func44, Try.ntmps44
        go_wp2
        go_ret
        exact ⟨by first | rfl | (simp; done) | (simp [*]; done), by repeat (first | exact Drawn0.refl _ | apply Drawn0.step)⟩
      · rw [if_neg c5] at H
        exact absurd H (by simp)
    · rw [if_neg c4] at H
      exact absurd H (by simp)
  · rw [if_neg c3] at H
    have c3b0 : decide ((a1.size : Int) ≤ (a0.size : Int)) = false := decide_eq_false c3
    have c3b1 : decide (a1.size ≤ a0.size) = false := decide_eq_false (fun h => c3 (Int.ofNat_le.mpr h))
    clear c3
    obtain rfl := Option.some.inj H
    go_enter Try.func44, Try.ntmps44
    go_wp2
    go_ret
    exact ⟨by first | rfl | (simp; done) | (simp [*]; done), by repeat (first | exact Drawn0.refl _ | apply Drawn0.step)⟩

/-! ### strings_HasPrefix: function 24 -/
def strings_HasPrefix.f (a0 : ByteArray) (a1 : ByteArray) : Option (Bool) := (stringslite_HasPrefix.f a0 a1).bind fun t133 => (some t133)
set_option maxHeartbeats 8000000 in
set_option maxRecDepth 100000 in
theorem strings_HasPrefix.calls (a0 : ByteArray) (a1 : ByteArray) (r : Bool) (w : World) (h : strings_HasPrefix.f a0 a1 = some r) :
    Calls Try.prog 24 #[.string a0, .string a1] w fun e w' => e = .returned (.bool r) ∧ Drawn0 w w' := by
  have H : ((stringslite_HasPrefix.f a0 a1).bind fun t133 => (some t133)) = some r := h
  clear h
  replace H := Option.bind_eq_some_iff.mp H
  obtain ⟨t133, A30, H⟩ := H
  replace H : (some t133) = some r := H
  have A3 := Aside0.mk A30
  clear A30
  obtain rfl := Option.some.inj H
  go_enter Try.func24, Try.ntmps24
  go_wp2_with (first | ((with_reducible refine gate_callee (f := 44) rfl ?_); refine goesL_ (some 7) rfl rfl Try.func44 (by kernel_rfl) rfl #[.string a0, .string a1] rfl (by (try simp only [List.map_toArray, List.map_cons, List.map_nil]); first | done | rfl | (simp only [List.length_drop, List.length_take]; rfl)) ?_; (with_reducible refine (stringslite_HasPrefix.calls a0 a1 t133 _ A3.out).mono ?_); rintro e w' ⟨rfl, ⟨nd, rfl⟩⟩; refine ⟨_, rfl, ?_⟩))
  go_ret
  exact ⟨by first | rfl | (simp; done) | (simp [*]; done), by repeat (first | exact Drawn0.refl _ | apply Drawn0.step)⟩

/-! ### clientmsg_Greets: function 10 -/
def clientmsg_Greets.f (a0 : ByteArray) : Option (Int × Int) := (strings_HasPrefix.f a0 (⟨#[82, 70, 66, 32, 48, 48, 51, 46, 48, 48, 56, 10]⟩ : ByteArray)).bind fun t134 => (if t134 = true then (some (12, 0)) else ((strings_HasPrefix.f (⟨#[82, 70, 66, 32, 48, 48, 51, 46, 48, 48, 56, 10]⟩ : ByteArray) a0).bind fun t135 => (if t135 = true then (some (0, 2)) else (some (0, 220)))))
set_option maxHeartbeats 8000000 in
set_option maxRecDepth 100000 in
theorem clientmsg_Greets.calls (a0 : ByteArray) (r1 : Int) (r2 : Int) (w : World) (h : clientmsg_Greets.f a0 = some (r1, r2)) :
    Calls Try.prog 10 #[.string a0] w fun e w' => e = .returned (.tuple #[.int .i64 r1, .int .i64 r2]) ∧ Drawn0 w w' := by
  have H : ((strings_HasPrefix.f a0 (⟨#[82, 70, 66, 32, 48, 48, 51, 46, 48, 48, 56, 10]⟩ : ByteArray)).bind fun t134 => (if t134 = true then (some (12, 0)) else ((strings_HasPrefix.f (⟨#[82, 70, 66, 32, 48, 48, 51, 46, 48, 48, 56, 10]⟩ : ByteArray) a0).bind fun t135 => (if t135 = true then (some (0, 2)) else (some (0, 220)))))) = some (r1, r2) := h
  clear h
  replace H := Option.bind_eq_some_iff.mp H
  obtain ⟨t134, A20, H⟩ := H
  replace H : (if t134 = true then (some (12, 0)) else ((strings_HasPrefix.f (⟨#[82, 70, 66, 32, 48, 48, 51, 46, 48, 48, 56, 10]⟩ : ByteArray) a0).bind fun t135 => (if t135 = true then (some (0, 2)) else (some (0, 220))))) = some (r1, r2) := H
  have A2 := Aside0.mk A20
  clear A20
  by_cases c3 : t134 = true
  · subst c3
    have H1 : (some (12, 0)) = some (r1, r2) := by rw [if_pos rfl] at H; exact H
    clear H
    have H := H1
    clear H1
    simp only [Option.some.injEq, Prod.mk.injEq] at H
    obtain ⟨rfl, rfl⟩ := H
    go_enter Try.func10, Try.ntmps10
    go_wp2_with (first | ((with_reducible refine gate_callee (f := 24) rfl ?_); refine goesL_ (some 6) rfl rfl Try.func24 (by kernel_rfl) rfl #[.string a0, .string (⟨#[82, 70, 66, 32, 48, 48, 51, 46, 48, 48, 56, 10]⟩ : ByteArray)] rfl (by (try simp only [List.map_toArray, List.map_cons, List.map_nil]); first | done | rfl | (simp only [List.length_drop, List.length_take]; rfl)) ?_; (with_reducible refine (strings_HasPrefix.calls a0 (⟨#[82, 70, 66, 32, 48, 48, 51, 46, 48, 48, 56, 10]⟩ : ByteArray) true _ A2.out).mono ?_); rintro e w' ⟨rfl, ⟨nd, rfl⟩⟩; refine ⟨_, rfl, ?_⟩))
    go_ret2
    exact ⟨by first | rfl | (simp; done) | (simp [*]; done), by repeat (first | exact Drawn0.refl _ | apply Drawn0.step)⟩
  · replace c3 := Bool.eq_false_iff.mpr c3
    subst c3
    have H1 : ((strings_HasPrefix.f (⟨#[82, 70, 66, 32, 48, 48, 51, 46, 48, 48, 56, 10]⟩ : ByteArray) a0).bind fun t135 => (if t135 = true then (some (0, 2)) else (some (0, 220)))) = some (r1, r2) := by rw [if_neg (show ¬ (false = true) by decide)] at H; exact H
    clear H
    have H := H1
    clear H1
    replace H := Option.bind_eq_some_iff.mp H
    obtain ⟨t135, A40, H⟩ := H
    replace H : (if t135 = true then (some (0, 2)) else (some (0, 220))) = some (r1, r2) := H
    have A4 := Aside0.mk A40
    clear A40
    by_cases c5 : t135 = true
    · subst c5
      have H1 : (some (0, 2)) = some (r1, r2) := by rw [if_pos rfl] at H; exact H
      clear H
      have H := H1
      clear H1
      simp only [Option.some.injEq, Prod.mk.injEq] at H
      obtain ⟨rfl, rfl⟩ := H
      go_enter Try.func10, Try.ntmps10
      go_wp2_with (first | ((with_reducible refine gate_callee (f := 24) rfl ?_); refine goesL_ (some 6) rfl rfl Try.func24 (by kernel_rfl) rfl #[.string a0, .string (⟨#[82, 70, 66, 32, 48, 48, 51, 46, 48, 48, 56, 10]⟩ : ByteArray)] rfl (by (try simp only [List.map_toArray, List.map_cons, List.map_nil]); first | done | rfl | (simp only [List.length_drop, List.length_take]; rfl)) ?_; (with_reducible refine (strings_HasPrefix.calls a0 (⟨#[82, 70, 66, 32, 48, 48, 51, 46, 48, 48, 56, 10]⟩ : ByteArray) false _ A2.out).mono ?_); rintro e w' ⟨rfl, ⟨nd, rfl⟩⟩; refine ⟨_, rfl, ?_⟩) | ((with_reducible refine gate_callee (f := 24) rfl ?_); refine goesL_ (some 9) rfl rfl Try.func24 (by kernel_rfl) rfl #[.string (⟨#[82, 70, 66, 32, 48, 48, 51, 46, 48, 48, 56, 10]⟩ : ByteArray), .string a0] rfl (by (try simp only [List.map_toArray, List.map_cons, List.map_nil]); first | done | rfl | (simp only [List.length_drop, List.length_take]; rfl)) ?_; (with_reducible refine (strings_HasPrefix.calls (⟨#[82, 70, 66, 32, 48, 48, 51, 46, 48, 48, 56, 10]⟩ : ByteArray) a0 true _ A4.out).mono ?_); rintro e w' ⟨rfl, ⟨nd, rfl⟩⟩; refine ⟨_, rfl, ?_⟩))
      go_ret2
      exact ⟨by first | rfl | (simp; done) | (simp [*]; done), by repeat (first | exact Drawn0.refl _ | apply Drawn0.step)⟩
    · replace c5 := Bool.eq_false_iff.mpr c5
      subst c5
      have H1 : (some (0, 220)) = some (r1, r2) := by rw [if_neg (show ¬ (false = true) by decide)] at H; exact H
      clear H
      have H := H1
      clear H1
      simp only [Option.some.injEq, Prod.mk.injEq] at H
      obtain ⟨rfl, rfl⟩ := H
      go_enter Try.func10, Try.ntmps10
      go_wp2_with (first | ((with_reducible refine gate_callee (f := 24) rfl ?_); refine goesL_ (some 6) rfl rfl Try.func24 (by kernel_rfl) rfl #[.string a0, .string (⟨#[82, 70, 66, 32, 48, 48, 51, 46, 48, 48, 56, 10]⟩ : ByteArray)] rfl (by (try simp only [List.map_toArray, List.map_cons, List.map_nil]); first | done | rfl | (simp only [List.length_drop, List.length_take]; rfl)) ?_; (with_reducible refine (strings_HasPrefix.calls a0 (⟨#[82, 70, 66, 32, 48, 48, 51, 46, 48, 48, 56, 10]⟩ : ByteArray) false _ A2.out).mono ?_); rintro e w' ⟨rfl, ⟨nd, rfl⟩⟩; refine ⟨_, rfl, ?_⟩) | ((with_reducible refine gate_callee (f := 24) rfl ?_); refine goesL_ (some 9) rfl rfl Try.func24 (by kernel_rfl) rfl #[.string (⟨#[82, 70, 66, 32, 48, 48, 51, 46, 48, 48, 56, 10]⟩ : ByteArray), .string a0] rfl (by (try simp only [List.map_toArray, List.map_cons, List.map_nil]); first | done | rfl | (simp only [List.length_drop, List.length_take]; rfl)) ?_; (with_reducible refine (strings_HasPrefix.calls (⟨#[82, 70, 66, 32, 48, 48, 51, 46, 48, 48, 56, 10]⟩ : ByteArray) a0 false _ A4.out).mono ?_); rintro e w' ⟨rfl, ⟨nd, rfl⟩⟩; refine ⟨_, rfl, ?_⟩))
      go_ret2
      exact ⟨by first | rfl | (simp; done) | (simp [*]; done), by repeat (first | exact Drawn0.refl _ | apply Drawn0.step)⟩

/-! ### miradorlaw22_works: function 7 -/
def miradorlaw22_works.f  : Option (Bool) := (clientmsg_Bytes.f 3 true 65 0 0 0 0 0 0 false false 0 0 0 0 0 0 ([] : List Int) (⟨#[]⟩ : ByteArray)).bind fun bt136 => (if bt136.1.size + 1 ≤ 9223372036854775807 then ((clientmsg_Parse.f (bt136.1 ++ (⟨#[120]⟩ : ByteArray))).bind fun bt138 => ((clientmsg_Greets.f (⟨#[82, 70, 66, 32, 48, 48, 51, 46, 48, 48, 56, 10, 120]⟩ : ByteArray)).bind fun bt162 => (if bt136.1.toList = ([4, 1, 0, 0, 0, 0, 0, 65] : List UInt8) then (if bt136.2 = 0 then (if bt138.2.2.1 = 65 then (if bt138.2.1 = true then (if bt138.2.2.2.2.2.2.2.2.2.2.2.2.2.2.2.2.2.2.2.1 = 8 then (if bt138.2.2.2.2.2.2.2.2.2.2.2.2.2.2.2.2.2.2.2.2 = 0 then (if bt162.1 = 12 then (some (bt162.2 == 0)) else (some false)) else (some false)) else (some false)) else (some false)) else (some false)) else (some false)) else (some false)))) else (none))
set_option maxHeartbeats 8000000 in
set_option maxRecDepth 100000 in
theorem miradorlaw22_works.calls1  (r : Bool) (w : World) (hr_ : r = true) (h : miradorlaw22_works.f  = some r) :
    Calls Try.prog 7 #[] w fun e w' => e = .returned (.bool r) ∧ Below w.heap.size w w' := by
  have hu30 := Try.underlying30
  have HB := Aside0.mk (Below.refl w.heap.size w)
  have H : ((clientmsg_Bytes.f 3 true 65 0 0 0 0 0 0 false false 0 0 0 0 0 0 ([] : List Int) (⟨#[]⟩ : ByteArray)).bind fun bt136 => (if bt136.1.size + 1 ≤ 9223372036854775807 then ((clientmsg_Parse.f (bt136.1 ++ (⟨#[120]⟩ : ByteArray))).bind fun bt138 => ((clientmsg_Greets.f (⟨#[82, 70, 66, 32, 48, 48, 51, 46, 48, 48, 56, 10, 120]⟩ : ByteArray)).bind fun bt162 => (if bt136.1.toList = ([4, 1, 0, 0, 0, 0, 0, 65] : List UInt8) then (if bt136.2 = 0 then (if bt138.2.2.1 = 65 then (if bt138.2.1 = true then (if bt138.2.2.2.2.2.2.2.2.2.2.2.2.2.2.2.2.2.2.2.1 = 8 then (if bt138.2.2.2.2.2.2.2.2.2.2.2.2.2.2.2.2.2.2.2.2 = 0 then (if bt162.1 = 12 then (some (bt162.2 == 0)) else (some false)) else (some false)) else (some false)) else (some false)) else (some false)) else (some false)) else (some false)))) else (none))) = some r := h
  clear h
  have HRT := Aside0.mk hr_
  clear hr_
  replace H := Option.bind_eq_some_iff.mp H
  obtain ⟨⟨t136, t137⟩, A10, H⟩ := H
  replace H : (if t136.size + 1 ≤ 9223372036854775807 then ((clientmsg_Parse.f (t136 ++ (⟨#[120]⟩ : ByteArray))).bind fun bt138 => ((clientmsg_Greets.f (⟨#[82, 70, 66, 32, 48, 48, 51, 46, 48, 48, 56, 10, 120]⟩ : ByteArray)).bind fun bt162 => (if t136.toList = ([4, 1, 0, 0, 0, 0, 0, 65] : List UInt8) then (if t137 = 0 then (if bt138.2.2.1 = 65 then (if bt138.2.1 = true then (if bt138.2.2.2.2.2.2.2.2.2.2.2.2.2.2.2.2.2.2.2.1 = 8 then (if bt138.2.2.2.2.2.2.2.2.2.2.2.2.2.2.2.2.2.2.2.2 = 0 then (if bt162.1 = 12 then (some (bt162.2 == 0)) else (some false)) else (some false)) else (some false)) else (some false)) else (some false)) else (some false)) else (some false)))) else (none)) = some r := H
  have A1 := Aside0.mk A10
  clear A10
  by_cases c2 : t136.size + 1 ≤ 9223372036854775807
  · rw [if_pos c2] at H
    have c2b0 := eq_true c2
    have c2b1 : decide (t136.size + 1 ≤ 9223372036854775807) = true := decide_eq_true c2
    try have c2b2 : (9223372036854775807 < t136.size + 1) = False := eq_false (Nat.not_lt.2 c2)
    replace H := Option.bind_eq_some_iff.mp H
    obtain ⟨⟨t138, t139, t140, t141, t142, t143, t144, t145, t146, t147, t148, t149, t150, t151, t152, t153, t154, t155, t158, t159, t160⟩, A30, H⟩ := H
    replace H : ((clientmsg_Greets.f (⟨#[82, 70, 66, 32, 48, 48, 51, 46, 48, 48, 56, 10, 120]⟩ : ByteArray)).bind fun bt162 => (if t136.toList = ([4, 1, 0, 0, 0, 0, 0, 65] : List UInt8) then (if t137 = 0 then (if t140 = 65 then (if t139 = true then (if t159 = 8 then (if t160 = 0 then (if bt162.1 = 12 then (some (bt162.2 == 0)) else (some false)) else (some false)) else (some false)) else (some false)) else (some false)) else (some false)) else (some false))) = some r := H
    have A3 := Aside0.mk A30
    clear A30
    replace H := Option.bind_eq_some_iff.mp H
    obtain ⟨⟨t162, t163⟩, A40, H⟩ := H
    replace H : (if t136.toList = ([4, 1, 0, 0, 0, 0, 0, 65] : List UInt8) then (if t137 = 0 then (if t140 = 65 then (if t139 = true then (if t159 = 8 then (if t160 = 0 then (if t162 = 12 then (some (t163 == 0)) else (some false)) else (some false)) else (some false)) else (some false)) else (some false)) else (some false)) else (some false)) = some r := H
    have A4 := Aside0.mk A40
    clear A40
    by_cases c5 : t136.toList = ([4, 1, 0, 0, 0, 0, 0, 65] : List UInt8)
    · rw [if_pos c5] at H
      have c5b0 : (t136.toList == ([4, 1, 0, 0, 0, 0, 0, 65] : List UInt8)) = true := beq_iff_eq.mpr c5
      have c5b1 : (t136.toList != ([4, 1, 0, 0, 0, 0, 0, 65] : List UInt8)) = false := bne_eq_false_iff_eq.mpr c5
      clear c5
      by_cases c6 : t137 = 0
      · rw [if_pos c6] at H
        have c6b0 : (t137 == 0) = true := beq_iff_eq.mpr c6
        have c6b1 : (t137 != 0) = false := bne_eq_false_iff_eq.mpr c6
        clear c6
        by_cases c7 : t140 = 65
        · rw [if_pos c7] at H
          have c7b0 : (t140 == 65) = true := beq_iff_eq.mpr c7
          have c7b1 : (t140 != 65) = false := bne_eq_false_iff_eq.mpr c7
          clear c7
          by_cases c8 : t139 = true
          · subst c8
            have H1 : (if t159 = 8 then (if t160 = 0 then (if t162 = 12 then (some (t163 == 0)) else (some false)) else (some false)) else (some false)) = some r := by rw [if_pos rfl] at H; exact H
            clear H
            have H := H1
            clear H1
            by_cases c9 : t159 = 8
            · rw [if_pos c9] at H
              have c9b0 : (t159 == 8) = true := beq_iff_eq.mpr c9
              have c9b1 : (t159 != 8) = false := bne_eq_false_iff_eq.mpr c9
              clear c9
              by_cases c10 : t160 = 0
              · rw [if_pos c10] at H
                have c10b0 : (t160 == 0) = true := beq_iff_eq.mpr c10
                have c10b1 : (t160 != 0) = false := bne_eq_false_iff_eq.mpr c10
                clear c10
                by_cases c11 : t162 = 12
                · rw [if_pos c11] at H
                  have c11b0 : (t162 == 12) = true := beq_iff_eq.mpr c11
                  have c11b1 : (t162 != 12) = false := bne_eq_false_iff_eq.mpr c11
                  clear c11
                  obtain rfl := Option.some.inj H
                  go_enter Try.func7, Try.ntmps7
                  go_wp2_with (first | ((with_reducible refine gate_callee (f := 13) rfl ?_); refine goesL_ (some 10) rfl rfl Try.func13 (by kernel_rfl) rfl #[.agg #[.int .i64 3, .bool true, .int .i64 65, .int .i64 0, .int .i64 0, .int .i64 0, .int .i64 0, .int .i64 0, .int .i64 0, .bool false, .bool false, .int .i64 0, .int .i64 0, .int .i64 0, .int .i64 0, .int .i64 0, .int .i64 0, .slice none 0 0, .string (⟨#[]⟩ : ByteArray)]] rfl (by (try simp only [List.map_toArray, List.map_cons, List.map_nil]); first | done | rfl | (simp only [List.length_drop, List.length_take]; rfl)) ?_; (refine (clientmsg_Bytes.calls 3 true 65 0 0 0 0 0 0 false false 0 0 0 0 0 0 _ _ ([] : List Int) (⟨#[]⟩ : ByteArray) t136 t137 _ ?side1 ?side2 A1.out).mono ?_); (case side1 => exact Kd.C_nil _ _); (case side2 => exact Nat.le_refl _); rintro e w12 ⟨rfl, hb⟩; refine ⟨_, rfl, ?_⟩; have n0_ := Aside0.mk (below_step (by repeat (first | (with_reducible first | exact HB.out | apply below_alloc | apply pw_below_drewN | apply below_drew1) | exact HB.out)) hb); clear HB; have HB := n0_; clear n0_; (try clear hb); (try clear hb2); (try clear hk); (try clear hi)) | ((with_reducible refine gate_callee (f := 8) rfl ?_); refine goesL_ (some 16) rfl rfl Try.func8 (by kernel_rfl) rfl #[.string (t136 ++ (⟨#[120]⟩ : ByteArray))] rfl (by (try simp only [List.map_toArray, List.map_cons, List.map_nil]); first | done | rfl | (simp only [List.length_drop, List.length_take]; rfl)) ?_; (with_reducible refine (clientmsg_Parse.calls (t136 ++ (⟨#[120]⟩ : ByteArray)) t138 true t140 t141 t142 t143 t144 t145 t146 t147 t148 t149 t150 t151 t152 t153 t154 t155 t158 t159 t160 _ A3.out).mono ?_); rintro e w13 ⟨v156, rfl, ho0, hb⟩; refine ⟨_, rfl, ?_⟩; have n0_ := Aside0.mk (Kd.R_lower ho0 (below_size (by repeat (first | (with_reducible first | exact HB.out | apply below_alloc | apply pw_below_drewN | apply below_drew1) | exact HB.out)))); have n1_ := Aside0.mk (below_step (by repeat (first | (with_reducible first | exact HB.out | apply below_alloc | apply pw_below_drewN | apply below_drew1) | exact HB.out)) hb); clear HB; have HO157 := n0_; have HB := n1_; clear n0_ n1_; (try clear hb); (try clear hb2); (try clear hk); (try clear hi); (try clear ho0)) | ((with_reducible refine gate_dst (N := 3) rfl ?_); refine box_event ?hg (N := 3) ?hd (cs := #[.int .i64 0, .bool false, .int .i64 0, .int .i64 0, .int .i64 0, .int .i64 0, .int .i64 0, .int .i64 0, .int .i64 0, .bool false, .bool false, .int .i64 0, .int .i64 0, .int .i64 0, .int .i64 0, .int .i64 0, .int .i64 0, .slice none 0 0, .string (⟨#[]⟩ : ByteArray)]) (t := 30) ?hr ?_; (case hd => rfl); (case hg => rfl); (case hr => first | (go_simp; done) | (go_simp; rfl)); intro gb161 hg w14 hbox hb; have n0_ := Aside0.mk (Kd.R_below (by (with_reducible repeat (first | apply Kd.R_alloc | apply Kd.R_drewN | apply Kd.R_drew)); exact HO157.out) hb); have n1_ := Aside0.mk (below_step (by repeat (first | (with_reducible first | exact HB.out | apply below_alloc | apply pw_below_drewN | apply below_drew1) | exact HB.out)) hb); have n2_ := Aside0.mk (hbox); have n3_ := Aside0.mk ((by rw [hg]; exact (below_size (by repeat (first | (with_reducible first | exact HB.out | apply below_alloc | apply pw_below_drewN | apply below_drew1) | exact HB.out))) : w.heap.size ≤ gb161)); have n4_ := Aside0.mk ((by rw [hg]; exact (below_size (by repeat (first | (with_reducible first | exact HB.out | apply below_alloc | apply pw_below_drewN | apply below_drew1) | exact HB.out))) : w.heap.size ≤ gb161)); clear HO157; clear HB; have HO157 := n0_; have HB := n1_; have BK161 := n2_; have GW161 := n3_; have GE161 := n4_; clear n0_ n1_ n2_ n3_ n4_; clear hb hbox hg; have hcz15_0 : w14.cell? ⟨gb161, 0, none⟩ = some (.int .i64 0) := (blk_cell BK161.out 0).trans rfl; have hcz15_1 : w14.cell? ⟨gb161, 1, none⟩ = some (.bool false) := (blk_cell BK161.out 1).trans rfl; have hcz15_2 : w14.cell? ⟨gb161, 2, none⟩ = some (.int .i64 0) := (blk_cell BK161.out 2).trans rfl; have hcz15_3 : w14.cell? ⟨gb161, 3, none⟩ = some (.int .i64 0) := (blk_cell BK161.out 3).trans rfl; have hcz15_4 : w14.cell? ⟨gb161, 4, none⟩ = some (.int .i64 0) := (blk_cell BK161.out 4).trans rfl; have hcz15_5 : w14.cell? ⟨gb161, 5, none⟩ = some (.int .i64 0) := (blk_cell BK161.out 5).trans rfl; have hcz15_6 : w14.cell? ⟨gb161, 6, none⟩ = some (.int .i64 0) := (blk_cell BK161.out 6).trans rfl; have hcz15_7 : w14.cell? ⟨gb161, 7, none⟩ = some (.int .i64 0) := (blk_cell BK161.out 7).trans rfl; have hcz15_8 : w14.cell? ⟨gb161, 8, none⟩ = some (.int .i64 0) := (blk_cell BK161.out 8).trans rfl; have hcz15_9 : w14.cell? ⟨gb161, 9, none⟩ = some (.bool false) := (blk_cell BK161.out 9).trans rfl; have hcz15_10 : w14.cell? ⟨gb161, 10, none⟩ = some (.bool false) := (blk_cell BK161.out 10).trans rfl; have hcz15_11 : w14.cell? ⟨gb161, 11, none⟩ = some (.int .i64 0) := (blk_cell BK161.out 11).trans rfl; have hcz15_12 : w14.cell? ⟨gb161, 12, none⟩ = some (.int .i64 0) := (blk_cell BK161.out 12).trans rfl; have hcz15_13 : w14.cell? ⟨gb161, 13, none⟩ = some (.int .i64 0) := (blk_cell BK161.out 13).trans rfl; have hcz15_14 : w14.cell? ⟨gb161, 14, none⟩ = some (.int .i64 0) := (blk_cell BK161.out 14).trans rfl; have hcz15_15 : w14.cell? ⟨gb161, 15, none⟩ = some (.int .i64 0) := (blk_cell BK161.out 15).trans rfl; have hcz15_16 : w14.cell? ⟨gb161, 16, none⟩ = some (.int .i64 0) := (blk_cell BK161.out 16).trans rfl; have hcz15_17 : w14.cell? ⟨gb161, 17, none⟩ = some (.slice none 0 0) := (blk_cell BK161.out 17).trans rfl; have hcz15_18 : w14.cell? ⟨gb161, 18, none⟩ = some (.string (⟨#[]⟩ : ByteArray)) := (blk_cell BK161.out 18).trans rfl; have hrw0 : rowAt w14 gb161 30 19 = true := rowAt_of (BK161.out) rfl; have hrc0 : cellsAt w14 gb161 = #[.int .i64 0, .bool false, .int .i64 0, .int .i64 0, .int .i64 0, .int .i64 0, .int .i64 0, .int .i64 0, .int .i64 0, .bool false, .bool false, .int .i64 0, .int .i64 0, .int .i64 0, .int .i64 0, .int .i64 0, .int .i64 0, .slice none 0 0, .string (⟨#[]⟩ : ByteArray)] := cellsAt_of (BK161.out); have hfz15_0 := blk_frozen BK161.out 0; have hfz15_1 := blk_frozen BK161.out 1; have hfz15_2 := blk_frozen BK161.out 2; have hfz15_3 := blk_frozen BK161.out 3; have hfz15_4 := blk_frozen BK161.out 4; have hfz15_5 := blk_frozen BK161.out 5; have hfz15_6 := blk_frozen BK161.out 6; have hfz15_7 := blk_frozen BK161.out 7; have hfz15_8 := blk_frozen BK161.out 8; have hfz15_9 := blk_frozen BK161.out 9; have hfz15_10 := blk_frozen BK161.out 10; have hfz15_11 := blk_frozen BK161.out 11; have hfz15_12 := blk_frozen BK161.out 12; have hfz15_13 := blk_frozen BK161.out 13; have hfz15_14 := blk_frozen BK161.out 14; have hfz15_15 := blk_frozen BK161.out 15; have hfz15_16 := blk_frozen BK161.out 16; have hfz15_17 := blk_frozen BK161.out 17; have hfz15_18 := blk_frozen BK161.out 18; obtain ⟨Ao16, co16, eo16⟩ := Kd.R_slice HO157.out; subst eo16) | ((with_reducible refine gate_callee (f := 10) rfl ?_); refine goesL_ (some 21) rfl rfl Try.func10 (by kernel_rfl) rfl #[.string (⟨#[82, 70, 66, 32, 48, 48, 51, 46, 48, 48, 56, 10, 120]⟩ : ByteArray)] rfl (by (try simp only [List.map_toArray, List.map_cons, List.map_nil]); first | done | rfl | (simp only [List.length_drop, List.length_take]; rfl)) ?_; (with_reducible refine (clientmsg_Greets.calls (⟨#[82, 70, 66, 32, 48, 48, 51, 46, 48, 48, 56, 10, 120]⟩ : ByteArray) t162 t163 _ A4.out).mono ?_); rintro e w' ⟨rfl, ⟨nd, rfl⟩⟩; refine ⟨_, rfl, ?_⟩))
                  go_ret
                  exact ⟨by first | rfl | (simp [errW_none, errW_some] <;> rfl) | (simp [*, errW_none, errW_some] <;> rfl), by repeat (first | (with_reducible first | exact HB.out | apply below_alloc | apply pw_below_drewN | apply below_drew1 | refine below_row ?_ GE161.out _) | exact HB.out)⟩
                · rw [if_neg c11] at H
                  have c11b0 : (t162 == 12) = false := beq_eq_false_iff_ne.mpr c11
                  have c11b1 : (t162 != 12) = true := bne_iff_ne.mpr c11
                  rw [HRT.out] at H
                  exact absurd (Option.some.inj H) (by decide)
              · rw [if_neg c10] at H
                have c10b0 : (t160 == 0) = false := beq_eq_false_iff_ne.mpr c10
                have c10b1 : (t160 != 0) = true := bne_iff_ne.mpr c10
                rw [HRT.out] at H
                exact absurd (Option.some.inj H) (by decide)
            · rw [if_neg c9] at H
              have c9b0 : (t159 == 8) = false := beq_eq_false_iff_ne.mpr c9
              have c9b1 : (t159 != 8) = true := bne_iff_ne.mpr c9
              rw [HRT.out] at H
              exact absurd (Option.some.inj H) (by decide)
          · replace c8 := Bool.eq_false_iff.mpr c8
            subst c8
            have H1 : (some false) = some r := by rw [if_neg (show ¬ (false = true) by decide)] at H; exact H
            clear H
            have H := H1
            clear H1
            rw [HRT.out] at H
            exact absurd (Option.some.inj H) (by decide)
        · rw [if_neg c7] at H
          have c7b0 : (t140 == 65) = false := beq_eq_false_iff_ne.mpr c7
          have c7b1 : (t140 != 65) = true := bne_iff_ne.mpr c7
          rw [HRT.out] at H
          exact absurd (Option.some.inj H) (by decide)
      · rw [if_neg c6] at H
        have c6b0 : (t137 == 0) = false := beq_eq_false_iff_ne.mpr c6
        have c6b1 : (t137 != 0) = true := bne_iff_ne.mpr c6
        rw [HRT.out] at H
        exact absurd (Option.some.inj H) (by decide)
    · rw [if_neg c5] at H
      have c5b0 : (t136.toList == ([4, 1, 0, 0, 0, 0, 0, 65] : List UInt8)) = false := beq_eq_false_iff_ne.mpr c5
      have c5b1 : (t136.toList != ([4, 1, 0, 0, 0, 0, 0, 65] : List UInt8)) = true := bne_iff_ne.mpr c5
      rw [HRT.out] at H
      exact absurd (Option.some.inj H) (by decide)
  · rw [if_neg c2] at H
    exact absurd H (by simp)
theorem miradorlaw22_works.at0 : miradorlaw22_works.f = some true := by first | kernel_rfl | decide +kernel
theorem miradorlaw22_works.true_ (r : Bool) (h : miradorlaw22_works.f = some r) : r = true := Option.some.inj (h.symm.trans miradorlaw22_works.at0)
theorem miradorlaw22_works.calls  (r : Bool) (w : World) (h : miradorlaw22_works.f  = some r) :
    Calls Try.prog 7 #[] w fun e w' => e = .returned (.bool r) ∧ Below w.heap.size w w' := miradorlaw22_works.calls1 r w (miradorlaw22_works.true_ r h) h

end Go.Proofs.Ytclikkhkhoicfaa.X
