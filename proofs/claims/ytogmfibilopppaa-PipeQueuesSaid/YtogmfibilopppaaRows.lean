/-
  No cell of these rows narrows 'for every input' (looked for: loops, veiled, ifaces, maps, wideKeys, modest, calm, conditions, laid).
  DERIVED. THE GIVEN ROWS OF THIS SEAT. 4 by the template 'for every input the law returns true; each argument reads behind the call as it read before'; 0 by the template 'total and deterministic' (their statements: YtogmfibilopppaaTotals.lean).
  GIVEN WITH THE SEED: the statements are not yours to turn. If you find one false, say at which input.
  Laid BY PROGRAM, IN A SANDBOX (cutbox-rows.mjs): the forced cells as the released guide's own fill.sh prints them over the translation b4775992c7987be4… (all of the seat's roots in one cut). By AI agents, Wed Nov 11 2026. No macro, syntax, notation, axiom, sorry.
-/
import Derived.Test.YtogmfibilopppaaChecked
import GoSem.Claim
import GoSem.ClaimJoined
import GoSem.ClaimMapViews
import Derived.JoinedTies
import Derived.KernelRfl
namespace Go.Proofs.Ytogmfibilopppaa
/- THE CELL 'sum', in the pinned program and in every row, IS THE sha256 OF THE DUMP (.gsa) THAT YtogmfibilopppaaProg.lean LOADS. Nothing in Lean hashes anything: it is a label: what it is worth is what the hold of that sum in a sandbox is worth. -/
noncomputable def Try.pinned : Pinned := { name := "ytogmfibilopppaa", sum := "b4775992c7987be47538b7a2a33c732c9e7ee6dcf276457ed20968a74d50f25d", checked := Try.checked }
namespace Rows
def none {H : Type} : Left H := { results := [], args := [] }

/-- 'miradorlaw24.PipeDoes': WHATEVER THE INPUT: true; the input reads as it did. -/
def pipeDoesSpec : ChangeSpec := { name := "pipeDoes", fn := fun _ => fun
  | [d1, d2] => { results := [.lit (.bool true)], args := [d1, d2] }
  | _ => none }
def pipeDoesRow : OpenClaim := { program := "ytogmfibilopppaa", sum := "b4775992c7987be47538b7a2a33c732c9e7ee6dcf276457ed20968a74d50f25d", func := "mirador/miradorlaw24.PipeDoes", spec := "pipeDoes", inPlace := ["internal/abi.NoEscape"], apart := false }
def PipeDoesSaid : Prop := pipeDoesRow.holds Try.pinned (OpenSpec.ofChange pipeDoesSpec)

/-- ITS FALSE NEIGHBOUR: 'it returns false'. Refute it at one input. -/
def pipeDoesWrong : ChangeSpec := { name := "pipeDoes", fn := fun _ => fun
  | [d1, d2] => { results := [.lit (.bool false)], args := [d1, d2] }
  | _ => none }
def PipeDoesWrongFalsely : Prop := pipeDoesRow.holds Try.pinned (OpenSpec.ofChange pipeDoesWrong)

/-- 'miradorlaw24.PipeOrder': WHATEVER THE INPUT: true; the input reads as it did. -/
def pipeOrderSpec : ChangeSpec := { name := "pipeOrder", fn := fun _ => fun
  | [d1, d2] => { results := [.lit (.bool true)], args := [d1, d2] }
  | _ => none }
def pipeOrderRow : OpenClaim := { program := "ytogmfibilopppaa", sum := "b4775992c7987be47538b7a2a33c732c9e7ee6dcf276457ed20968a74d50f25d", func := "mirador/miradorlaw24.PipeOrder", spec := "pipeOrder", inPlace := ["internal/abi.NoEscape"], apart := false }
def PipeOrderSaid : Prop := pipeOrderRow.holds Try.pinned (OpenSpec.ofChange pipeOrderSpec)

/-- ITS FALSE NEIGHBOUR: 'it returns false'. Refute it at one input. -/
def pipeOrderWrong : ChangeSpec := { name := "pipeOrder", fn := fun _ => fun
  | [d1, d2] => { results := [.lit (.bool false)], args := [d1, d2] }
  | _ => none }
def PipeOrderWrongFalsely : Prop := pipeOrderRow.holds Try.pinned (OpenSpec.ofChange pipeOrderWrong)

/-- 'miradorlaw24.PipeSplit': WHATEVER THE INPUT: true; the input reads as it did. -/
def pipeSplitSpec : ChangeSpec := { name := "pipeSplit", fn := fun _ => fun
  | [d1, d2, d3, d4, d5] => { results := [.lit (.bool true)], args := [d1, d2, d3, d4, d5] }
  | _ => none }
def pipeSplitRow : OpenClaim := { program := "ytogmfibilopppaa", sum := "b4775992c7987be47538b7a2a33c732c9e7ee6dcf276457ed20968a74d50f25d", func := "mirador/miradorlaw24.PipeSplit", spec := "pipeSplit", inPlace := ["internal/abi.NoEscape"], apart := false }
def PipeSplitSaid : Prop := pipeSplitRow.holds Try.pinned (OpenSpec.ofChange pipeSplitSpec)

/-- ITS FALSE NEIGHBOUR: 'it returns false'. Refute it at one input. -/
def pipeSplitWrong : ChangeSpec := { name := "pipeSplit", fn := fun _ => fun
  | [d1, d2, d3, d4, d5] => { results := [.lit (.bool false)], args := [d1, d2, d3, d4, d5] }
  | _ => none }
def PipeSplitWrongFalsely : Prop := pipeSplitRow.holds Try.pinned (OpenSpec.ofChange pipeSplitWrong)

/-- 'miradorlaw24.PipeQueues': WHATEVER THE INPUT: true; the input reads as it did. -/
def pipeQueuesSpec : ChangeSpec := { name := "pipeQueues", fn := fun _ => fun
  | [d1, d2] => { results := [.lit (.bool true)], args := [d1, d2] }
  | _ => none }
def pipeQueuesRow : OpenClaim := { program := "ytogmfibilopppaa", sum := "b4775992c7987be47538b7a2a33c732c9e7ee6dcf276457ed20968a74d50f25d", func := "mirador/miradorlaw24.PipeQueues", spec := "pipeQueues", inPlace := ["internal/abi.NoEscape"], apart := false }
def PipeQueuesSaid : Prop := pipeQueuesRow.holds Try.pinned (OpenSpec.ofChange pipeQueuesSpec)

/-- ITS FALSE NEIGHBOUR: 'it returns false'. Refute it at one input. -/
def pipeQueuesWrong : ChangeSpec := { name := "pipeQueues", fn := fun _ => fun
  | [d1, d2] => { results := [.lit (.bool false)], args := [d1, d2] }
  | _ => none }
def PipeQueuesWrongFalsely : Prop := pipeQueuesRow.holds Try.pinned (OpenSpec.ofChange pipeQueuesWrong)

/- THE SECOND FORM. 'bulk': how many values and letters a reading holds, each counted each time it is reached (what is shared counts as often as it is met; a slice's spare places count too). A statement '..UptoSaid' is the law's where the arguments, and the package variables that the reading takes, are together of bulk at most 1048576: NARROWER than '..Said'. Prove '..Said' where nothing that the law and all that it calls make is longer than what came in: it says more and counts as full. Else prove '..UptoSaid'. A law counts once. -/
mutual
def uptoBulk {H : Type} : DataW H → Nat
  | .lit (.string bytes) => bytes.length + 1
  | .lit _ => 1
  | .nil => 1
  | .ptr d => uptoBulk d + 1
  | .slice elems spare => uptoBulkAll elems + uptoBulkAll spare + 1
  | .agg parts => uptoBulkAll parts + 1
  | .iface _ d => uptoBulk d + 1
  | .map entries => uptoBulkEntries entries + 1
  | .held _ => 1
def uptoBulkAll {H : Type} : List (DataW H) → Nat
  | [] => 0
  | d :: r => uptoBulk d + uptoBulkAll r
def uptoBulkEntries {H : Type} : List (Lit × DataW H) → Nat
  | [] => 0
  | x :: r => uptoBulkEntry x + uptoBulkEntries r
def uptoBulkEntry {H : Type} : Lit × DataW H → Nat
  | (.string bytes, d) => bytes.length + uptoBulk d + 1
  | (_, d) => uptoBulk d + 1
 end
def uptoSmall : (H : Type) → List (DataW H) → Bool := fun _ ds => decide (uptoBulkAll ds ≤ 1048576)
def OpenSpec.upto (s : _root_.Go.ChangeSpec) : _root_.Go.OpenSpec := { _root_.Go.OpenSpec.ofChange s with cond := some uptoSmall }

/-- 'miradorlaw24.PipeDoes', WHERE WHAT IT READS IS OF BULK AT MOST 1048576: true; the input reads as it did. -/
def pipeDoesUptoRow : OpenClaim := { program := "ytogmfibilopppaa", sum := "b4775992c7987be47538b7a2a33c732c9e7ee6dcf276457ed20968a74d50f25d", func := "mirador/miradorlaw24.PipeDoes", spec := "pipeDoes", inPlace := ["internal/abi.NoEscape"], apart := false, narrowed := true }
def PipeDoesUptoSaid : Prop := pipeDoesUptoRow.holds Try.pinned (OpenSpec.upto pipeDoesSpec)

/-- 'miradorlaw24.PipeOrder', WHERE WHAT IT READS IS OF BULK AT MOST 1048576: true; the input reads as it did. -/
def pipeOrderUptoRow : OpenClaim := { program := "ytogmfibilopppaa", sum := "b4775992c7987be47538b7a2a33c732c9e7ee6dcf276457ed20968a74d50f25d", func := "mirador/miradorlaw24.PipeOrder", spec := "pipeOrder", inPlace := ["internal/abi.NoEscape"], apart := false, narrowed := true }
def PipeOrderUptoSaid : Prop := pipeOrderUptoRow.holds Try.pinned (OpenSpec.upto pipeOrderSpec)

/-- 'miradorlaw24.PipeSplit', WHERE WHAT IT READS IS OF BULK AT MOST 1048576: true; the input reads as it did. -/
def pipeSplitUptoRow : OpenClaim := { program := "ytogmfibilopppaa", sum := "b4775992c7987be47538b7a2a33c732c9e7ee6dcf276457ed20968a74d50f25d", func := "mirador/miradorlaw24.PipeSplit", spec := "pipeSplit", inPlace := ["internal/abi.NoEscape"], apart := false, narrowed := true }
def PipeSplitUptoSaid : Prop := pipeSplitUptoRow.holds Try.pinned (OpenSpec.upto pipeSplitSpec)

/-- 'miradorlaw24.PipeQueues', WHERE WHAT IT READS IS OF BULK AT MOST 1048576: true; the input reads as it did. -/
def pipeQueuesUptoRow : OpenClaim := { program := "ytogmfibilopppaa", sum := "b4775992c7987be47538b7a2a33c732c9e7ee6dcf276457ed20968a74d50f25d", func := "mirador/miradorlaw24.PipeQueues", spec := "pipeQueues", inPlace := ["internal/abi.NoEscape"], apart := false, narrowed := true }
def PipeQueuesUptoSaid : Prop := pipeQueuesUptoRow.holds Try.pinned (OpenSpec.upto pipeQueuesSpec)

end Rows
end Go.Proofs.Ytogmfibilopppaa
