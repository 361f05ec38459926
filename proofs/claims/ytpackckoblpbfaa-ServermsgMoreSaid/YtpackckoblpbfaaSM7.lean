import Derived.Test.YtpackckoblpbfaaSM6
/-! A whole start, of a text and of a longer one. -/
namespace Go.Proofs.Ytpackckoblpbfaa.H
set_option linter.unusedVariables false
open Go.RowKit Go.Proofs.Ytpackckoblpbfaa.X Go.Proofs.Ytpackckoblpbfaa.B Go.Proofs.Ytpackckoblpbfaa.O Go.Proofs.Ytpackckoblpbfaa.F Go.Proofs.YtpackckoblpbfaaW.PrintWords Go.Proofs.YtpackckoblpbfaaW.PrintLast Go.Proofs.YtpackckoblpbfaaW.PrintMore
abbrev V13 := Int × Int × Int × Int × Bool × Bool × Int × Int × Int × Int × Int × Int × ByteArray
def sT (u0 u1 : Int) (p : P11) (t : ByteArray) (q : RS) : Option (V13 × RS) := some ((u0, u1, p.1, p.2.1, p.2.2.1, p.2.2.2.1, p.2.2.2.2.1, p.2.2.2.2.2.1, p.2.2.2.2.2.2.1, p.2.2.2.2.2.2.2.1, p.2.2.2.2.2.2.2.2.1, p.2.2.2.2.2.2.2.2.2.1, t), q)
def sZ (u0 u1 : Int) (q : RS) : Option (V13 × RS) := some ((u0, u1, 0, 0, false, false, 0, 0, 0, 0, 0, 0, ⟨#[]⟩), q)
def sU (u0 u1 : Int) (p : P11) (q : RS) := (textS q).bind fun t => sT u0 u1 p t.1 t.2
def sB (u0 u1 : Int) (p : P11) (q : RS) := if q.re = 0 then sU u0 u1 p q else sZ u0 u1 q
def sC (u0 u1 : Int) (q : RS) := (sA u0 u1 q).bind fun p => sB u0 u1 p.1 p.2
def sD (u0 : Int) (q : RS) := (intS q 2).bind fun p => sC u0 p.1 p.2
theorem sZ_good (u0 u1 : Int) : Good Any (sZ u0 u1) := Good.pure _ trivial
theorem sU_good (u0 u1 : Int) (p : P11) : Good Any (sU u0 u1 p) := Good.bind (g := sT u0 u1 p) text_good (fun t _ => Good.pure _ trivial)
theorem sU_lock (u0 u1 : Int) (p : P11) : Lock Any (sU u0 u1 p) := Lock.bind (g := sT u0 u1 p) text_lock (fun t _ => Good.pure _ trivial) (fun t _ => Lock.pure _ trivial)
theorem sB_good (u0 u1 : Int) (p : P11) : Good Any (sB u0 u1 p) := Good.onRe (f := sU u0 u1 p) (g := sZ u0 u1) (sU_good u0 u1 p) (sZ_good u0 u1)
theorem sB_lock (u0 u1 : Int) (p : P11) : Lock Any (sB u0 u1 p) := Lock.onRe (f := sU u0 u1 p) (g := sZ u0 u1) (sU_lock u0 u1 p)
theorem sC_good (u0 u1 : Int) : Good Any (sC u0 u1) := Good.bind (g := sB u0 u1) (sA_good u0 u1) (fun p _ => sB_good u0 u1 p)
theorem sC_lock (u0 u1 : Int) : Lock Any (sC u0 u1) := Lock.bind (g := sB u0 u1) (sA_lock u0 u1) (fun p _ => sB_good u0 u1 p) (fun p _ => sB_lock u0 u1 p)
theorem sD_good (u0 : Int) : Good Any (sD u0) := Good.bind (g := sC u0) (int_good 2 i2) (fun u1 _ => sC_good u0 u1)
theorem sD_lock (u0 : Int) : Lock Any (sD u0) := Lock.bind (g := sC u0) (int_lock 2 i2) (fun u1 _ => sC_good u0 u1) (fun u1 _ => sC_lock u0 u1)
theorem start_eq : startS = fun q => (intS q 2).bind fun p => sD p.1 p.2 := by
  funext q
  unfold startS
  congr 1
  funext a
  unfold sD
  congr 1
  funext b
  unfold sC sA
  rw [Option.bind_assoc]
  congr 1
  funext c
  rw [Option.bind_assoc]
  rfl
theorem start_lock : Lock Any startS := by
  rw [start_eq]
  exact Lock.bind (g := sD) (int_lock 2 i2) (fun u _ => sD_good u) (fun u _ => sD_lock u)
end Go.Proofs.Ytpackckoblpbfaa.H
