import Derived.Test.YtpackckoblpbfaaSM3
import Derived.Test.YtpackckoblpbfaaXx20
import Derived.Test.YtpackckoblpbfaaXx45
import Derived.Test.YtpackckoblpbfaaXx34
import Derived.Test.YtpackckoblpbfaaXx36
import Derived.Test.YtpackckoblpbfaaXx18
import Derived.Test.YtpackckoblpbfaaXx19
/-! What is read of a text and of a longer one. -/
namespace Go.Proofs.Ytpackckoblpbfaa.H
set_option linter.unusedVariables false
open Go.RowKit Go.Proofs.Ytpackckoblpbfaa.X Go.Proofs.Ytpackckoblpbfaa.B Go.Proofs.Ytpackckoblpbfaa.O Go.Proofs.YtpackckoblpbfaaW.PrintWords Go.Proofs.YtpackckoblpbfaaW.PrintLast Go.Proofs.YtpackckoblpbfaaW.PrintMore
def Any {α : Type} : α → Prop := fun _ => True
def rA (t : ByteArray) (q : RS) : Option (ByteArray × RS) := if t.size = 0 then some (⟨#[63]⟩, q) else some (t, q)
def rB (n : Int) (q : RS) : Option (ByteArray × RS) := if n = 0 then some (⟨#[]⟩, q) else (textS q).bind fun p => rA p.1 p.2
theorem rA_good (t : ByteArray) : Good Any (rA t) := Good.ite (f := fun q => some ((⟨#[63]⟩ : ByteArray), q)) (g := fun q => some (t, q)) (fun _ => Good.pure _ trivial) (fun _ => Good.pure _ trivial)
theorem rA_lock (t : ByteArray) : Lock Any (rA t) := Lock.ite (f := fun q => some ((⟨#[63]⟩ : ByteArray), q)) (g := fun q => some (t, q)) (fun _ => Lock.pure _ trivial) (fun _ => Lock.pure _ trivial)
theorem rB_good (n : Int) : Good Any (rB n) := Good.ite (f := fun q => some ((⟨#[]⟩ : ByteArray), q)) (g := fun q => (textS q).bind fun p => rA p.1 p.2) (fun _ => Good.pure _ trivial) (fun _ => Good.bind (g := rA) text_good (fun t _ => rA_good t))
theorem rB_lock (n : Int) : Lock Any (rB n) := Lock.ite (f := fun q => some ((⟨#[]⟩ : ByteArray), q)) (g := fun q => (textS q).bind fun p => rA p.1 p.2) (fun _ => Lock.pure _ trivial) (fun _ => Lock.bind (g := rA) text_lock (fun t _ => rA_good t) (fun t _ => rA_lock t))
theorem result_lock : Lock Any resultS := Lock.bind (g := rB) (int_lock 4 (.inr (.inr rfl))) (fun n _ => rB_good n) (fun n _ => rB_lock n)
def hE (a b c d e : Int) (q : RS) : Option ((Int × Int × Int × Int × Int) × RS) := some ((a, b, c, d, e), q)
def hD (a b c d : Int) (q : RS) := (signedS q).bind fun p => hE a b c d p.1 p.2
def hC (a b c : Int) (q : RS) := (intS q 2).bind fun p => hD a b c p.1 p.2
def hB (a b : Int) (q : RS) := (intS q 2).bind fun p => hC a b p.1 p.2
def hA (a : Int) (q : RS) := (intS q 2).bind fun p => hB a p.1 p.2
theorem i2 : (2 : Int) = 1 ∨ (2 : Int) = 2 ∨ (2 : Int) = 4 := .inr (.inl rfl)
theorem hD_good (a b c d : Int) : Good Any (hD a b c d) := Good.bind (g := hE a b c d) signed_good (fun e _ => Good.pure (a, b, c, d, e) trivial)
theorem hC_good (a b c : Int) : Good Any (hC a b c) := Good.bind (g := hD a b c) (int_good 2 i2) (fun d _ => hD_good a b c d)
theorem hB_good (a b : Int) : Good Any (hB a b) := Good.bind (g := hC a b) (int_good 2 i2) (fun d _ => hC_good a b d)
theorem hA_good (a : Int) : Good Any (hA a) := Good.bind (g := hB a) (int_good 2 i2) (fun d _ => hB_good a d)
theorem hD_lock (a b c d : Int) : Lock Any (hD a b c d) := Lock.bind (g := hE a b c d) signed_lock (fun e _ => Good.pure (a, b, c, d, e) trivial) (fun e _ => Lock.pure (a, b, c, d, e) trivial)
theorem hC_lock (a b c : Int) : Lock Any (hC a b c) := Lock.bind (g := hD a b c) (int_lock 2 i2) (fun d _ => hD_good a b c d) (fun d _ => hD_lock a b c d)
theorem hB_lock (a b : Int) : Lock Any (hB a b) := Lock.bind (g := hC a b) (int_lock 2 i2) (fun d _ => hC_good a b d) (fun d _ => hC_lock a b d)
theorem hA_lock (a : Int) : Lock Any (hA a) := Lock.bind (g := hB a) (int_lock 2 i2) (fun d _ => hB_good a d) (fun d _ => hB_lock a d)
theorem head_lock : Lock Any headS := Lock.bind (g := hA) (int_lock 2 i2) (fun d _ => hA_good d) (fun d _ => hA_lock d)
def mN (n : Int) (q : RS) : Option ((Int × Int × ByteArray) × RS) := some ((6, n, ⟨#[]⟩), q)
def mA (_ : ByteArray) (q : RS) := (intS q 2).bind fun p => mN p.1 p.2
def mT (t : ByteArray) (q : RS) : Option ((Int × Int × ByteArray) × RS) := some ((5, 0, t), q)
def mB (_ : ByteArray) (q : RS) := (textS q).bind fun p => mT p.1 p.2
def mZ (_ : Unit) (q : RS) : Option ((Int × Int × ByteArray) × RS) := some ((0, 0, ⟨#[]⟩), q)
def mF (q : RS) := (some ((), failS q true 222)).bind fun p => mZ p.1 p.2
def mD (k : Int) (q : RS) := if k = 3 then (bytesS q 3).bind fun p => mB p.1 p.2 else mF q
def mE (k : Int) (q : RS) : Option ((Int × Int × ByteArray) × RS) := if k = 2 then some ((7, 0, ⟨#[]⟩), q) else mD k q
def mG (k : Int) (q : RS) := if k = 0 then (bytesS q 1).bind fun p => mA p.1 p.2 else mE k q
theorem mA_good (b : ByteArray) : Good Any (mA b) := Good.bind (g := mN) (int_good 2 i2) (fun n _ => Good.pure (6, n, (⟨#[]⟩ : ByteArray)) trivial)
theorem mA_lock (b : ByteArray) : Lock Any (mA b) := Lock.bind (g := mN) (int_lock 2 i2) (fun n _ => Good.pure (6, n, (⟨#[]⟩ : ByteArray)) trivial) (fun n _ => Lock.pure (6, n, (⟨#[]⟩ : ByteArray)) trivial)
theorem mB_good (b : ByteArray) : Good Any (mB b) := Good.bind (g := mT) text_good (fun t _ => Good.pure (5, 0, t) trivial)
theorem mB_lock (b : ByteArray) : Lock Any (mB b) := Lock.bind (g := mT) text_lock (fun t _ => Good.pure (5, 0, t) trivial) (fun t _ => Lock.pure (5, 0, t) trivial)
theorem mF_good : Good Any mF := Good.bind (g := mZ) (fail_good true 222 (by decide)) (fun _ _ => Good.pure (0, 0, (⟨#[]⟩ : ByteArray)) trivial)
theorem mF_lock : Lock Any mF := Lock.bind (g := mZ) (fail_lock true 222 (by decide)) (fun _ _ => Good.pure (0, 0, (⟨#[]⟩ : ByteArray)) trivial) (fun _ _ => Lock.pure (0, 0, (⟨#[]⟩ : ByteArray)) trivial)
theorem mD_good (k : Int) : Good Any (mD k) := Good.ite (c := k = 3) (f := fun q => (bytesS q 3).bind fun p => mB p.1 p.2) (g := mF) (fun _ => Good.bind (g := mB) (bytes_good 3 (by decide)) (fun b _ => mB_good b)) (fun _ => mF_good)
theorem mD_lock (k : Int) : Lock Any (mD k) := Lock.ite (c := k = 3) (f := fun q => (bytesS q 3).bind fun p => mB p.1 p.2) (g := mF) (fun _ => Lock.bind (g := mB) (bytes_lock 3 (by decide)) (fun b _ => mB_good b) (fun b _ => mB_lock b)) (fun _ => mF_lock)
theorem mE_good (k : Int) : Good Any (mE k) := Good.ite (c := k = 2) (f := fun q => some ((7, 0, (⟨#[]⟩ : ByteArray)), q)) (g := mD k) (fun _ => Good.pure _ trivial) (fun _ => mD_good k)
theorem mE_lock (k : Int) : Lock Any (mE k) := Lock.ite (c := k = 2) (f := fun q => some ((7, 0, (⟨#[]⟩ : ByteArray)), q)) (g := mD k) (fun _ => Lock.pure _ trivial) (fun _ => mD_lock k)
theorem mG_good (k : Int) : Good Any (mG k) := Good.ite (c := k = 0) (f := fun q => (bytesS q 1).bind fun p => mA p.1 p.2) (g := mE k) (fun _ => Good.bind (g := mA) (bytes_good 1 (by decide)) (fun b _ => mA_good b)) (fun _ => mE_good k)
theorem mG_lock (k : Int) : Lock Any (mG k) := Lock.ite (c := k = 0) (f := fun q => (bytesS q 1).bind fun p => mA p.1 p.2) (g := mE k) (fun _ => Lock.bind (g := mA) (bytes_lock 1 (by decide)) (fun b _ => mA_good b) (fun b _ => mA_lock b)) (fun _ => mE_lock k)
theorem msg_lock : Lock Any msgS := Lock.bind (g := mG) (int_lock 1 (.inl rfl)) (fun k _ => mG_good k) (fun k _ => mG_lock k)
def kR (x : Int) (r : List Int) (q : RS) : Option (List Int × RS) := some (x :: r, q)
def kS (n : Nat) (x : Int) (q : RS) := (kindsL n q).bind fun p => kR x p.1 p.2
theorem kindsL_succ (n : Nat) : kindsL (n + 1) = fun q => (intS q 1).bind fun p => kS n p.1 p.2 := by
  funext q
  show (intS q 1).bind _ = (intS q 1).bind _
  congr 1
  funext p
  show (kindsL n p.2).map _ = (kindsL n p.2).bind _
  cases kindsL n p.2 <;> rfl
theorem kindsL_good : ∀ n : Nat, Good (Any : List Int → Prop) (kindsL n)
  | 0 => Good.pure _ trivial
  | n + 1 => by
    rw [kindsL_succ]
    exact Good.bind (g := kS n) (int_good 1 (.inl rfl)) (fun x _ => Good.bind (g := kR x) (kindsL_good n) (fun r _ => Good.pure (x :: r) trivial))
theorem kindsL_lock : ∀ n : Nat, Lock (Any : List Int → Prop) (kindsL n)
  | 0 => Lock.pure _ trivial
  | n + 1 => by
    rw [kindsL_succ]
    exact Lock.bind (g := kS n) (int_lock 1 (.inl rfl)) (fun x _ => Good.bind (g := kR x) (kindsL_good n) (fun r _ => Good.pure (x :: r) trivial)) (fun x _ => Lock.bind (g := kR x) (kindsL_lock n) (fun r _ => Good.pure (x :: r) trivial) (fun r _ => Lock.pure (x :: r) trivial))
end Go.Proofs.Ytpackckoblpbfaa.H
