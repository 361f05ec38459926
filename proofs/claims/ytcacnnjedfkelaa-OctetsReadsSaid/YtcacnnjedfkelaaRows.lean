/-
  No cell of these rows narrows 'for every input' (looked for: loops, veiled, ifaces, maps, wideKeys, modest, calm, conditions, laid).
  DERIVED. THE GIVEN ROWS OF THIS SEAT. 5 by the template 'for every input the law returns true; each argument reads behind the call as it read before'; 0 by the template 'total and deterministic' (their statements: YtcacnnjedfkelaaTotals.lean).
  GIVEN WITH THE SEED: the statements are not yours to turn. If you find one false, say at which input.
  Laid BY PROGRAM, IN A SANDBOX (cutbox-rows.mjs): the forced cells as the released guide's own fill.sh prints them over the translation b6d782ac554b89c5… (all of the seat's roots in one cut). By AI agents, Wed Nov 11 2026. No macro, syntax, notation, axiom, sorry.
-/
import Derived.Test.YtcacnnjedfkelaaChecked
import GoSem.Claim
import GoSem.ClaimJoined
import GoSem.ClaimMapViews
import Derived.JoinedTies
import Derived.KernelRfl
namespace Go.Proofs.Ytcacnnjedfkelaa
/- THE CELL 'sum', in the pinned program and in every row, IS THE sha256 OF THE DUMP (.gsa) THAT YtcacnnjedfkelaaProg.lean LOADS. Nothing in Lean hashes anything: it is a label: what it is worth is what the hold of that sum in a sandbox is worth. -/
noncomputable def Try.pinned : Pinned := { name := "ytcacnnjedfkelaa", sum := "b6d782ac554b89c5c3361ee4baa9d0083701c45dfcc0e4aba4f37876e1b5d8d4", checked := Try.checked }
namespace Rows
def none {H : Type} : Left H := { results := [], args := [] }

/-- 'miradorlaw01.OctetsPuts': WHATEVER THE INPUT: true; the input reads as it did. -/
def octetsPutsSpec : ChangeSpec := { name := "octetsPuts", fn := fun _ => fun
  | [d1, d2] => { results := [.lit (.bool true)], args := [d1, d2] }
  | _ => none }
def octetsPutsRow : OpenClaim := { program := "ytcacnnjedfkelaa", sum := "b6d782ac554b89c5c3361ee4baa9d0083701c45dfcc0e4aba4f37876e1b5d8d4", func := "mirador/miradorlaw01.OctetsPuts", spec := "octetsPuts", unfollowed := true, recurses := true, apart := false }
def OctetsPutsSaid : Prop := octetsPutsRow.holds Try.pinned (OpenSpec.ofChange octetsPutsSpec)

/-- ITS FALSE NEIGHBOUR: 'it returns false'. Refute it at one input. -/
def octetsPutsWrong : ChangeSpec := { name := "octetsPuts", fn := fun _ => fun
  | [d1, d2] => { results := [.lit (.bool false)], args := [d1, d2] }
  | _ => none }
def OctetsPutsWrongFalsely : Prop := octetsPutsRow.holds Try.pinned (OpenSpec.ofChange octetsPutsWrong)

/-- 'miradorlaw01.OctetsSplit': WHATEVER THE INPUT: true; the input reads as it did. -/
def octetsSplitSpec : ChangeSpec := { name := "octetsSplit", fn := fun _ => fun
  | [d1, d2, d3] => { results := [.lit (.bool true)], args := [d1, d2, d3] }
  | _ => none }
def octetsSplitRow : OpenClaim := { program := "ytcacnnjedfkelaa", sum := "b6d782ac554b89c5c3361ee4baa9d0083701c45dfcc0e4aba4f37876e1b5d8d4", func := "mirador/miradorlaw01.OctetsSplit", spec := "octetsSplit", unfollowed := true, recurses := true, apart := false }
def OctetsSplitSaid : Prop := octetsSplitRow.holds Try.pinned (OpenSpec.ofChange octetsSplitSpec)

/-- ITS FALSE NEIGHBOUR: 'it returns false'. Refute it at one input. -/
def octetsSplitWrong : ChangeSpec := { name := "octetsSplit", fn := fun _ => fun
  | [d1, d2, d3] => { results := [.lit (.bool false)], args := [d1, d2, d3] }
  | _ => none }
def OctetsSplitWrongFalsely : Prop := octetsSplitRow.holds Try.pinned (OpenSpec.ofChange octetsSplitWrong)

/-- 'miradorlaw01.OctetsMore': WHATEVER THE INPUT: true; the input reads as it did. -/
def octetsMoreSpec : ChangeSpec := { name := "octetsMore", fn := fun _ => fun
  | [d1, d2, d3] => { results := [.lit (.bool true)], args := [d1, d2, d3] }
  | _ => none }
def octetsMoreRow : OpenClaim := { program := "ytcacnnjedfkelaa", sum := "b6d782ac554b89c5c3361ee4baa9d0083701c45dfcc0e4aba4f37876e1b5d8d4", func := "mirador/miradorlaw01.OctetsMore", spec := "octetsMore", unfollowed := true, recurses := true, apart := false }
def OctetsMoreSaid : Prop := octetsMoreRow.holds Try.pinned (OpenSpec.ofChange octetsMoreSpec)

/-- ITS FALSE NEIGHBOUR: 'it returns false'. Refute it at one input. -/
def octetsMoreWrong : ChangeSpec := { name := "octetsMore", fn := fun _ => fun
  | [d1, d2, d3] => { results := [.lit (.bool false)], args := [d1, d2, d3] }
  | _ => none }
def OctetsMoreWrongFalsely : Prop := octetsMoreRow.holds Try.pinned (OpenSpec.ofChange octetsMoreWrong)

/-- 'miradorlaw01.OctetsReads': WHATEVER THE INPUT: true; the input reads as it did. -/
def octetsReadsSpec : ChangeSpec := { name := "octetsReads", fn := fun _ => fun
  | [d1, d2, d3] => { results := [.lit (.bool true)], args := [d1, d2, d3] }
  | _ => none }
def octetsReadsRow : OpenClaim := { program := "ytcacnnjedfkelaa", sum := "b6d782ac554b89c5c3361ee4baa9d0083701c45dfcc0e4aba4f37876e1b5d8d4", func := "mirador/miradorlaw01.OctetsReads", spec := "octetsReads", unfollowed := true, recurses := true, apart := false }
def OctetsReadsSaid : Prop := octetsReadsRow.holds Try.pinned (OpenSpec.ofChange octetsReadsSpec)

/-- ITS FALSE NEIGHBOUR: 'it returns false'. Refute it at one input. -/
def octetsReadsWrong : ChangeSpec := { name := "octetsReads", fn := fun _ => fun
  | [d1, d2, d3] => { results := [.lit (.bool false)], args := [d1, d2, d3] }
  | _ => none }
def OctetsReadsWrongFalsely : Prop := octetsReadsRow.holds Try.pinned (OpenSpec.ofChange octetsReadsWrong)

/-- 'miradorlaw01.OctetsBack': WHATEVER THE INPUT: true; the input reads as it did. -/
def octetsBackSpec : ChangeSpec := { name := "octetsBack", fn := fun _ => fun
  | [d1, d2, d3, d4] => { results := [.lit (.bool true)], args := [d1, d2, d3, d4] }
  | _ => none }
def octetsBackRow : OpenClaim := { program := "ytcacnnjedfkelaa", sum := "b6d782ac554b89c5c3361ee4baa9d0083701c45dfcc0e4aba4f37876e1b5d8d4", func := "mirador/miradorlaw01.OctetsBack", spec := "octetsBack", unfollowed := true, recurses := true, apart := false }
def OctetsBackSaid : Prop := octetsBackRow.holds Try.pinned (OpenSpec.ofChange octetsBackSpec)

/-- ITS FALSE NEIGHBOUR: 'it returns false'. Refute it at one input. -/
def octetsBackWrong : ChangeSpec := { name := "octetsBack", fn := fun _ => fun
  | [d1, d2, d3, d4] => { results := [.lit (.bool false)], args := [d1, d2, d3, d4] }
  | _ => none }
def OctetsBackWrongFalsely : Prop := octetsBackRow.holds Try.pinned (OpenSpec.ofChange octetsBackWrong)

/- THE SECOND FORM. 'bulk': how many values and letters a reading holds, each counted each time it is reached (what is shared counts as often as it is met; a slice's spare places count too). A statement '..UptoSaid' is the law's where the arguments, and the package variables that the reading takes, are together of bulk at most 1048576: NARROWER than '..Said'. Prove '..Said' where nothing that the law and all that it calls make is longer than what came in: it says more and counts as full. Else prove '..UptoSaid'. A law counts once. -/
mutual
def uptoBulk {H : Type} : DataW H → Nat
  | .lit (.string bytes) => bytes.length + 1
  | .lit _ => 1
  | .nil => 1
  | .ptr d => uptoBulk d + 1
  | .slice elems spare => uptoBulkAll elems + uptoBulkAll spare + 1
  | .agg parts => uptoBulkAll parts + 1
  | .iface _ d => uptoBulk d + 1
  | .map entries => uptoBulkEntries entries + 1
  | .held _ => 1
def uptoBulkAll {H : Type} : List (DataW H) → Nat
  | [] => 0
  | d :: r => uptoBulk d + uptoBulkAll r
def uptoBulkEntries {H : Type} : List (Lit × DataW H) → Nat
  | [] => 0
  | x :: r => uptoBulkEntry x + uptoBulkEntries r
def uptoBulkEntry {H : Type} : Lit × DataW H → Nat
  | (.string bytes, d) => bytes.length + uptoBulk d + 1
  | (_, d) => uptoBulk d + 1
 end
def uptoSmall : (H : Type) → List (DataW H) → Bool := fun _ ds => decide (uptoBulkAll ds ≤ 1048576)
def OpenSpec.upto (s : _root_.Go.ChangeSpec) : _root_.Go.OpenSpec := { _root_.Go.OpenSpec.ofChange s with cond := some uptoSmall }

/-- 'miradorlaw01.OctetsPuts', WHERE WHAT IT READS IS OF BULK AT MOST 1048576: true; the input reads as it did. -/
def octetsPutsUptoRow : OpenClaim := { program := "ytcacnnjedfkelaa", sum := "b6d782ac554b89c5c3361ee4baa9d0083701c45dfcc0e4aba4f37876e1b5d8d4", func := "mirador/miradorlaw01.OctetsPuts", spec := "octetsPuts", unfollowed := true, recurses := true, apart := false, narrowed := true }
def OctetsPutsUptoSaid : Prop := octetsPutsUptoRow.holds Try.pinned (OpenSpec.upto octetsPutsSpec)

/-- 'miradorlaw01.OctetsSplit', WHERE WHAT IT READS IS OF BULK AT MOST 1048576: true; the input reads as it did. -/
def octetsSplitUptoRow : OpenClaim := { program := "ytcacnnjedfkelaa", sum := "b6d782ac554b89c5c3361ee4baa9d0083701c45dfcc0e4aba4f37876e1b5d8d4", func := "mirador/miradorlaw01.OctetsSplit", spec := "octetsSplit", unfollowed := true, recurses := true, apart := false, narrowed := true }
def OctetsSplitUptoSaid : Prop := octetsSplitUptoRow.holds Try.pinned (OpenSpec.upto octetsSplitSpec)

/-- 'miradorlaw01.OctetsMore', WHERE WHAT IT READS IS OF BULK AT MOST 1048576: true; the input reads as it did. -/
def octetsMoreUptoRow : OpenClaim := { program := "ytcacnnjedfkelaa", sum := "b6d782ac554b89c5c3361ee4baa9d0083701c45dfcc0e4aba4f37876e1b5d8d4", func := "mirador/miradorlaw01.OctetsMore", spec := "octetsMore", unfollowed := true, recurses := true, apart := false, narrowed := true }
def OctetsMoreUptoSaid : Prop := octetsMoreUptoRow.holds Try.pinned (OpenSpec.upto octetsMoreSpec)

/-- 'miradorlaw01.OctetsReads', WHERE WHAT IT READS IS OF BULK AT MOST 1048576: true; the input reads as it did. -/
def octetsReadsUptoRow : OpenClaim := { program := "ytcacnnjedfkelaa", sum := "b6d782ac554b89c5c3361ee4baa9d0083701c45dfcc0e4aba4f37876e1b5d8d4", func := "mirador/miradorlaw01.OctetsReads", spec := "octetsReads", unfollowed := true, recurses := true, apart := false, narrowed := true }
def OctetsReadsUptoSaid : Prop := octetsReadsUptoRow.holds Try.pinned (OpenSpec.upto octetsReadsSpec)

/-- 'miradorlaw01.OctetsBack', WHERE WHAT IT READS IS OF BULK AT MOST 1048576: true; the input reads as it did. -/
def octetsBackUptoRow : OpenClaim := { program := "ytcacnnjedfkelaa", sum := "b6d782ac554b89c5c3361ee4baa9d0083701c45dfcc0e4aba4f37876e1b5d8d4", func := "mirador/miradorlaw01.OctetsBack", spec := "octetsBack", unfollowed := true, recurses := true, apart := false, narrowed := true }
def OctetsBackUptoSaid : Prop := octetsBackUptoRow.holds Try.pinned (OpenSpec.upto octetsBackSpec)

end Rows
end Go.Proofs.Ytcacnnjedfkelaa
