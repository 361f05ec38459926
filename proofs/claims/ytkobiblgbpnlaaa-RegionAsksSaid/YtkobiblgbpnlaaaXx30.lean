/- What each Go function that these laws use answers: as a Lean function, with the proof that the machine's call comes to it. Written by a program of this session (xprint.py). -/
import Derived.Test.YtkobiblgbpnlaaaXx0
import Derived.Test.YtkobiblgbpnlaaaXx18
import Derived.Test.YtkobiblgbpnlaaaXx19
namespace Go.Proofs.Ytkobiblgbpnlaaa.X
open Go.RowKit Go.Proofs.YtkobiblgbpnlaaaW.PrintWords Go.Proofs.YtkobiblgbpnlaaaW.PrintLast Go.Proofs.YtkobiblgbpnlaaaW.PrintMore
attribute [local go_sem] max2_int min2_int max_two min_two max_three min_three max_four min_four   -- for this text's walks alone
set_option linter.unusedVariables false
set_option linter.unusedSimpArgs false

/-! ### region_Union: function 15 -/
def keepUnion : Bool → Bool → Bool := fun a b => a || b
theorem keepUnion_c (W : World) (x y : Bool) : Calls Try.prog 30 #[.bool x, .bool y] W fun e w' => e = .returned (.bool (keepUnion x y)) ∧ w' = W := by
  cases x <;> cases y <;>
  · go_enter Try.func30, Try.ntmps30
    go_wp2
    go_ret
    exact ⟨rfl, rfl⟩
def region_Union.f (l0 l1 : List S26) : Option (List S26) := if l0.length + l1.length ≤ 5000 then some (combS keepUnion l0 l1) else none
set_option maxRecDepth 100000 in
theorem region_Union.calls (A0 : Option Addr) (c0 : Nat) (l0 : List S26) (A1 : Option Addr) (c1 : Nat) (l1 : List S26) (r : List S26) (w : World) (hr0 : Kd.C k26 w A0 l0.length l0) (hc0 : l0.length ≤ c0) (hr1 : Kd.C k26 w A1 l1.length l1) (hc1 : l1.length ≤ c1) (h : region_Union.f l0 l1 = some r) :
    Calls Try.prog 15 #[.slice A0 l0.length c0, .slice A1 l1.length c1] w fun e w' => ∃ v0_ : Value, e = .returned (v0_) ∧ Kd.R k26 26 w' w.heap.size (fun _ => True) v0_ r ∧ Below w.heap.size w w' := by
  unfold region_Union.f at h
  split at h <;> cases h
  have HL := Lib.hid ‹l0.length + l1.length ≤ 5000›
  have HR0 := Lib.hid hr0; have HC0 := Lib.hid hc0; have HR1 := Lib.hid hr1; have HC1 := Lib.hid hc1
  clear hr0 hc0 hr1 hc1
  go_enter Try.func15, Try.ntmps15
  go_wp2_with fail
  refine (combine_c _ keepUnion (enters_of Try.func30 (by kernel_rfl) rfl) keepUnion_c A0 A1 c0 c1 l0 l1 w HR0.out HR1.out HC0.out HC1.out HL.out).mono ?_
  rintro e w' ⟨v, rfl, ho, hb⟩
  obtain ⟨A', c', rfl⟩ := own_slice ho
  have HO := Lib.hid ho; have HB := Lib.hid hb; clear ho hb
  go_wp2
  go_ret
  exact ⟨_, rfl, R_of_rect HO.out, HB.out⟩

/-! ### region_Both: function 17 -/
def keepBoth : Bool → Bool → Bool := fun a b => a && b
theorem keepBoth_c (W : World) (x y : Bool) : Calls Try.prog 32 #[.bool x, .bool y] W fun e w' => e = .returned (.bool (keepBoth x y)) ∧ w' = W := by
  cases x <;> cases y <;>
  · go_enter Try.func32, Try.ntmps32
    go_wp2
    go_ret
    exact ⟨rfl, rfl⟩
def region_Both.f (l0 l1 : List S26) : Option (List S26) := if l0.length + l1.length ≤ 5000 then some (combS keepBoth l0 l1) else none
set_option maxRecDepth 100000 in
theorem region_Both.calls (A0 : Option Addr) (c0 : Nat) (l0 : List S26) (A1 : Option Addr) (c1 : Nat) (l1 : List S26) (r : List S26) (w : World) (hr0 : Kd.C k26 w A0 l0.length l0) (hc0 : l0.length ≤ c0) (hr1 : Kd.C k26 w A1 l1.length l1) (hc1 : l1.length ≤ c1) (h : region_Both.f l0 l1 = some r) :
    Calls Try.prog 17 #[.slice A0 l0.length c0, .slice A1 l1.length c1] w fun e w' => ∃ v0_ : Value, e = .returned (v0_) ∧ Kd.R k26 26 w' w.heap.size (fun _ => True) v0_ r ∧ Below w.heap.size w w' := by
  unfold region_Both.f at h
  split at h <;> cases h
  have HL := Lib.hid ‹l0.length + l1.length ≤ 5000›
  have HR0 := Lib.hid hr0; have HC0 := Lib.hid hc0; have HR1 := Lib.hid hr1; have HC1 := Lib.hid hc1
  clear hr0 hc0 hr1 hc1
  go_enter Try.func17, Try.ntmps17
  go_wp2_with fail
  refine (combine_c _ keepBoth (enters_of Try.func32 (by kernel_rfl) rfl) keepBoth_c A0 A1 c0 c1 l0 l1 w HR0.out HR1.out HC0.out HC1.out HL.out).mono ?_
  rintro e w' ⟨v, rfl, ho, hb⟩
  obtain ⟨A', c', rfl⟩ := own_slice ho
  have HO := Lib.hid ho; have HB := Lib.hid hb; clear ho hb
  go_wp2
  go_ret
  exact ⟨_, rfl, R_of_rect HO.out, HB.out⟩

end Go.Proofs.Ytkobiblgbpnlaaa.X
