/-
  No cell of these rows narrows 'for every input' (looked for: loops, veiled, ifaces, maps, wideKeys, modest, calm, conditions, laid).
  DERIVED. THE GIVEN ROWS OF THIS SEAT. 5 by the template 'for every input the law returns true; each argument reads behind the call as it read before'; 0 by the template 'total and deterministic' (their statements: YtpackckoblpbfaaTotals.lean).
  GIVEN WITH THE SEED: the statements are not yours to turn. If you find one false, say at which input.
  Laid BY PROGRAM, IN A SANDBOX (cutbox-rows.mjs): the forced cells as the released guide's own fill.sh prints them over the translation c4195d1eec6e8c50… (all of the seat's roots in one cut). By AI agents, Wed Nov 11 2026. No macro, syntax, notation, axiom, sorry.
-/
import Derived.Test.YtpackckoblpbfaaChecked
import GoSem.Claim
import GoSem.ClaimJoined
import GoSem.ClaimMapViews
import Derived.JoinedTies
import Derived.KernelRfl
namespace Go.Proofs.Ytpackckoblpbfaa
/- THE CELL 'sum', in the pinned program and in every row, IS THE sha256 OF THE DUMP (.gsa) THAT YtpackckoblpbfaaProg.lean LOADS. Nothing in Lean hashes anything: it is a label: what it is worth is what the hold of that sum in a sandbox is worth. -/
noncomputable def Try.pinned : Pinned := { name := "ytpackckoblpbfaa", sum := "c4195d1eec6e8c50867c01273151eed368215b850957f0bf133d2b0fa7ba1535", checked := Try.checked }
namespace Rows
def none {H : Type} : Left H := { results := [], args := [] }

/-- 'miradorlaw23.ServermsgWrites': WHATEVER THE INPUT: true; the input reads as it did. -/
def servermsgWritesSpec : ChangeSpec := { name := "servermsgWrites", fn := fun _ => fun
  | [d1, d2, d3, d4, d5] => { results := [.lit (.bool true)], args := [d1, d2, d3, d4, d5] }
  | _ => none }
def servermsgWritesRow : OpenClaim := { program := "ytpackckoblpbfaa", sum := "c4195d1eec6e8c50867c01273151eed368215b850957f0bf133d2b0fa7ba1535", func := "mirador/miradorlaw23.ServermsgWrites", spec := "servermsgWrites", inPlace := ["internal/abi.NoEscape"], unfollowed := true, recurses := true, apart := false }
def ServermsgWritesSaid : Prop := servermsgWritesRow.holds Try.pinned (OpenSpec.ofChange servermsgWritesSpec)

/-- ITS FALSE NEIGHBOUR: 'it returns false'. Refute it at one input. -/
def servermsgWritesWrong : ChangeSpec := { name := "servermsgWrites", fn := fun _ => fun
  | [d1, d2, d3, d4, d5] => { results := [.lit (.bool false)], args := [d1, d2, d3, d4, d5] }
  | _ => none }
def ServermsgWritesWrongFalsely : Prop := servermsgWritesRow.holds Try.pinned (OpenSpec.ofChange servermsgWritesWrong)

/-- 'miradorlaw23.ServermsgMany': WHATEVER THE INPUT: true; the input reads as it did. -/
def servermsgManySpec : ChangeSpec := { name := "servermsgMany", fn := fun _ => fun
  | [d] => { results := [.lit (.bool true)], args := [d] }
  | _ => none }
def servermsgManyRow : OpenClaim := { program := "ytpackckoblpbfaa", sum := "c4195d1eec6e8c50867c01273151eed368215b850957f0bf133d2b0fa7ba1535", func := "mirador/miradorlaw23.ServermsgMany", spec := "servermsgMany", inPlace := ["internal/abi.NoEscape"], unfollowed := true, recurses := true, apart := false }
def ServermsgManySaid : Prop := servermsgManyRow.holds Try.pinned (OpenSpec.ofChange servermsgManySpec)

/-- ITS FALSE NEIGHBOUR: 'it returns false'. Refute it at one input. -/
def servermsgManyWrong : ChangeSpec := { name := "servermsgMany", fn := fun _ => fun
  | [d] => { results := [.lit (.bool false)], args := [d] }
  | _ => none }
def ServermsgManyWrongFalsely : Prop := servermsgManyRow.holds Try.pinned (OpenSpec.ofChange servermsgManyWrong)

/-- 'miradorlaw23.ServermsgReads': WHATEVER THE INPUT: true; the input reads as it did. -/
def servermsgReadsSpec : ChangeSpec := { name := "servermsgReads", fn := fun _ => fun
  | [d] => { results := [.lit (.bool true)], args := [d] }
  | _ => none }
def servermsgReadsRow : OpenClaim := { program := "ytpackckoblpbfaa", sum := "c4195d1eec6e8c50867c01273151eed368215b850957f0bf133d2b0fa7ba1535", func := "mirador/miradorlaw23.ServermsgReads", spec := "servermsgReads", inPlace := ["internal/abi.NoEscape"], unfollowed := true, recurses := true, apart := false }
def ServermsgReadsSaid : Prop := servermsgReadsRow.holds Try.pinned (OpenSpec.ofChange servermsgReadsSpec)

/-- ITS FALSE NEIGHBOUR: 'it returns false'. Refute it at one input. -/
def servermsgReadsWrong : ChangeSpec := { name := "servermsgReads", fn := fun _ => fun
  | [d] => { results := [.lit (.bool false)], args := [d] }
  | _ => none }
def ServermsgReadsWrongFalsely : Prop := servermsgReadsRow.holds Try.pinned (OpenSpec.ofChange servermsgReadsWrong)

/-- 'miradorlaw23.ServermsgMore': WHATEVER THE INPUT: true; the input reads as it did. -/
def servermsgMoreSpec : ChangeSpec := { name := "servermsgMore", fn := fun _ => fun
  | [d1, d2] => { results := [.lit (.bool true)], args := [d1, d2] }
  | _ => none }
def servermsgMoreRow : OpenClaim := { program := "ytpackckoblpbfaa", sum := "c4195d1eec6e8c50867c01273151eed368215b850957f0bf133d2b0fa7ba1535", func := "mirador/miradorlaw23.ServermsgMore", spec := "servermsgMore", inPlace := ["internal/abi.NoEscape"], unfollowed := true, recurses := true, apart := false }
def ServermsgMoreSaid : Prop := servermsgMoreRow.holds Try.pinned (OpenSpec.ofChange servermsgMoreSpec)

/-- ITS FALSE NEIGHBOUR: 'it returns false'. Refute it at one input. -/
def servermsgMoreWrong : ChangeSpec := { name := "servermsgMore", fn := fun _ => fun
  | [d1, d2] => { results := [.lit (.bool false)], args := [d1, d2] }
  | _ => none }
def ServermsgMoreWrongFalsely : Prop := servermsgMoreRow.holds Try.pinned (OpenSpec.ofChange servermsgMoreWrong)

/-- 'miradorlaw23.ServermsgBack': WHATEVER THE INPUT: true; the input reads as it did. -/
def servermsgBackSpec : ChangeSpec := { name := "servermsgBack", fn := fun _ => fun
  | [d1, d2, d3, d4, d5, d6] => { results := [.lit (.bool true)], args := [d1, d2, d3, d4, d5, d6] }
  | _ => none }
def servermsgBackRow : OpenClaim := { program := "ytpackckoblpbfaa", sum := "c4195d1eec6e8c50867c01273151eed368215b850957f0bf133d2b0fa7ba1535", func := "mirador/miradorlaw23.ServermsgBack", spec := "servermsgBack", inPlace := ["internal/abi.NoEscape"], unfollowed := true, recurses := true, apart := false }
def ServermsgBackSaid : Prop := servermsgBackRow.holds Try.pinned (OpenSpec.ofChange servermsgBackSpec)

/-- ITS FALSE NEIGHBOUR: 'it returns false'. Refute it at one input. -/
def servermsgBackWrong : ChangeSpec := { name := "servermsgBack", fn := fun _ => fun
  | [d1, d2, d3, d4, d5, d6] => { results := [.lit (.bool false)], args := [d1, d2, d3, d4, d5, d6] }
  | _ => none }
def ServermsgBackWrongFalsely : Prop := servermsgBackRow.holds Try.pinned (OpenSpec.ofChange servermsgBackWrong)

/- THE SECOND FORM. 'bulk': how many values and letters a reading holds, each counted each time it is reached (what is shared counts as often as it is met; a slice's spare places count too). A statement '..UptoSaid' is the law's where the arguments, and the package variables that the reading takes, are together of bulk at most 1048576: NARROWER than '..Said'. Prove '..Said' where nothing that the law and all that it calls make is longer than what came in: it says more and counts as full. Else prove '..UptoSaid'. A law counts once. -/
mutual
def uptoBulk {H : Type} : DataW H → Nat
  | .lit (.string bytes) => bytes.length + 1
  | .lit _ => 1
  | .nil => 1
  | .ptr d => uptoBulk d + 1
  | .slice elems spare => uptoBulkAll elems + uptoBulkAll spare + 1
  | .agg parts => uptoBulkAll parts + 1
  | .iface _ d => uptoBulk d + 1
  | .map entries => uptoBulkEntries entries + 1
  | .held _ => 1
def uptoBulkAll {H : Type} : List (DataW H) → Nat
  | [] => 0
  | d :: r => uptoBulk d + uptoBulkAll r
def uptoBulkEntries {H : Type} : List (Lit × DataW H) → Nat
  | [] => 0
  | x :: r => uptoBulkEntry x + uptoBulkEntries r
def uptoBulkEntry {H : Type} : Lit × DataW H → Nat
  | (.string bytes, d) => bytes.length + uptoBulk d + 1
  | (_, d) => uptoBulk d + 1
 end
def uptoSmall : (H : Type) → List (DataW H) → Bool := fun _ ds => decide (uptoBulkAll ds ≤ 1048576)
def OpenSpec.upto (s : _root_.Go.ChangeSpec) : _root_.Go.OpenSpec := { _root_.Go.OpenSpec.ofChange s with cond := some uptoSmall }

/-- 'miradorlaw23.ServermsgWrites', WHERE WHAT IT READS IS OF BULK AT MOST 1048576: true; the input reads as it did. -/
def servermsgWritesUptoRow : OpenClaim := { program := "ytpackckoblpbfaa", sum := "c4195d1eec6e8c50867c01273151eed368215b850957f0bf133d2b0fa7ba1535", func := "mirador/miradorlaw23.ServermsgWrites", spec := "servermsgWrites", inPlace := ["internal/abi.NoEscape"], unfollowed := true, recurses := true, apart := false, narrowed := true }
def ServermsgWritesUptoSaid : Prop := servermsgWritesUptoRow.holds Try.pinned (OpenSpec.upto servermsgWritesSpec)

/-- 'miradorlaw23.ServermsgMany', WHERE WHAT IT READS IS OF BULK AT MOST 1048576: true; the input reads as it did. -/
def servermsgManyUptoRow : OpenClaim := { program := "ytpackckoblpbfaa", sum := "c4195d1eec6e8c50867c01273151eed368215b850957f0bf133d2b0fa7ba1535", func := "mirador/miradorlaw23.ServermsgMany", spec := "servermsgMany", inPlace := ["internal/abi.NoEscape"], unfollowed := true, recurses := true, apart := false, narrowed := true }
def ServermsgManyUptoSaid : Prop := servermsgManyUptoRow.holds Try.pinned (OpenSpec.upto servermsgManySpec)

/-- 'miradorlaw23.ServermsgReads', WHERE WHAT IT READS IS OF BULK AT MOST 1048576: true; the input reads as it did. -/
def servermsgReadsUptoRow : OpenClaim := { program := "ytpackckoblpbfaa", sum := "c4195d1eec6e8c50867c01273151eed368215b850957f0bf133d2b0fa7ba1535", func := "mirador/miradorlaw23.ServermsgReads", spec := "servermsgReads", inPlace := ["internal/abi.NoEscape"], unfollowed := true, recurses := true, apart := false, narrowed := true }
def ServermsgReadsUptoSaid : Prop := servermsgReadsUptoRow.holds Try.pinned (OpenSpec.upto servermsgReadsSpec)

/-- 'miradorlaw23.ServermsgMore', WHERE WHAT IT READS IS OF BULK AT MOST 1048576: true; the input reads as it did. -/
def servermsgMoreUptoRow : OpenClaim := { program := "ytpackckoblpbfaa", sum := "c4195d1eec6e8c50867c01273151eed368215b850957f0bf133d2b0fa7ba1535", func := "mirador/miradorlaw23.ServermsgMore", spec := "servermsgMore", inPlace := ["internal/abi.NoEscape"], unfollowed := true, recurses := true, apart := false, narrowed := true }
def ServermsgMoreUptoSaid : Prop := servermsgMoreUptoRow.holds Try.pinned (OpenSpec.upto servermsgMoreSpec)

/-- 'miradorlaw23.ServermsgBack', WHERE WHAT IT READS IS OF BULK AT MOST 1048576: true; the input reads as it did. -/
def servermsgBackUptoRow : OpenClaim := { program := "ytpackckoblpbfaa", sum := "c4195d1eec6e8c50867c01273151eed368215b850957f0bf133d2b0fa7ba1535", func := "mirador/miradorlaw23.ServermsgBack", spec := "servermsgBack", inPlace := ["internal/abi.NoEscape"], unfollowed := true, recurses := true, apart := false, narrowed := true }
def ServermsgBackUptoSaid : Prop := servermsgBackUptoRow.holds Try.pinned (OpenSpec.upto servermsgBackSpec)

end Rows
end Go.Proofs.Ytpackckoblpbfaa
