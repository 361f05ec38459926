/-
  No cell of these rows narrows 'for every input' (looked for: loops, veiled, ifaces, maps, wideKeys, modest, calm, conditions, laid).
  DERIVED. THE GIVEN ROWS OF THIS SEAT. 4 by the template 'for every input the law returns true; each argument reads behind the call as it read before'; 0 by the template 'total and deterministic' (their statements: YtclikkhkhoicfaaTotals.lean).
  GIVEN WITH THE SEED: the statements are not yours to turn. If you find one false, say at which input.
  Laid BY PROGRAM, IN A SANDBOX (cutbox-rows.mjs): the forced cells as the released guide's own fill.sh prints them over the translation eeea595a90185593… (all of the seat's roots in one cut). By AI agents, Wed Nov 11 2026. No macro, syntax, notation, axiom, sorry.
-/
import Derived.Test.YtclikkhkhoicfaaChecked
import GoSem.Claim
import GoSem.ClaimJoined
import GoSem.ClaimMapViews
import Derived.JoinedTies
import Derived.KernelRfl
namespace Go.Proofs.Ytclikkhkhoicfaa
/- THE CELL 'sum', in the pinned program and in every row, IS THE sha256 OF THE DUMP (.gsa) THAT YtclikkhkhoicfaaProg.lean LOADS. Nothing in Lean hashes anything: it is a label: what it is worth is what the hold of that sum in a sandbox is worth. -/
noncomputable def Try.pinned : Pinned := { name := "ytclikkhkhoicfaa", sum := "eeea595a90185593fabf4193f3dc5e3522447d238a9f228126fad428fa3d1e2e", checked := Try.checked }
namespace Rows
def none {H : Type} : Left H := { results := [], args := [] }

/-- 'miradorlaw22.ClientmsgParses': WHATEVER THE INPUT: true; the input reads as it did. -/
def clientmsgParsesSpec : ChangeSpec := { name := "clientmsgParses", fn := fun _ => fun
  | [d] => { results := [.lit (.bool true)], args := [d] }
  | _ => none }
def clientmsgParsesRow : OpenClaim := { program := "ytclikkhkhoicfaa", sum := "eeea595a90185593fabf4193f3dc5e3522447d238a9f228126fad428fa3d1e2e", func := "mirador/miradorlaw22.ClientmsgParses", spec := "clientmsgParses", inPlace := ["internal/abi.NoEscape"], unfollowed := true, recurses := true, apart := false }
def ClientmsgParsesSaid : Prop := clientmsgParsesRow.holds Try.pinned (OpenSpec.ofChange clientmsgParsesSpec)

/-- ITS FALSE NEIGHBOUR: 'it returns false'. Refute it at one input. -/
def clientmsgParsesWrong : ChangeSpec := { name := "clientmsgParses", fn := fun _ => fun
  | [d] => { results := [.lit (.bool false)], args := [d] }
  | _ => none }
def ClientmsgParsesWrongFalsely : Prop := clientmsgParsesRow.holds Try.pinned (OpenSpec.ofChange clientmsgParsesWrong)

/-- 'miradorlaw22.ClientmsgBack': WHATEVER THE INPUT: true; the input reads as it did. -/
def clientmsgBackSpec : ChangeSpec := { name := "clientmsgBack", fn := fun _ => fun
  | [d1, d2] => { results := [.lit (.bool true)], args := [d1, d2] }
  | _ => none }
def clientmsgBackRow : OpenClaim := { program := "ytclikkhkhoicfaa", sum := "eeea595a90185593fabf4193f3dc5e3522447d238a9f228126fad428fa3d1e2e", func := "mirador/miradorlaw22.ClientmsgBack", spec := "clientmsgBack", inPlace := ["internal/abi.NoEscape"], unfollowed := true, recurses := true, apart := false }
def ClientmsgBackSaid : Prop := clientmsgBackRow.holds Try.pinned (OpenSpec.ofChange clientmsgBackSpec)

/-- ITS FALSE NEIGHBOUR: 'it returns false'. Refute it at one input. -/
def clientmsgBackWrong : ChangeSpec := { name := "clientmsgBack", fn := fun _ => fun
  | [d1, d2] => { results := [.lit (.bool false)], args := [d1, d2] }
  | _ => none }
def ClientmsgBackWrongFalsely : Prop := clientmsgBackRow.holds Try.pinned (OpenSpec.ofChange clientmsgBackWrong)

/-- 'miradorlaw22.ClientmsgMore': WHATEVER THE INPUT: true; the input reads as it did. -/
def clientmsgMoreSpec : ChangeSpec := { name := "clientmsgMore", fn := fun _ => fun
  | [d1, d2] => { results := [.lit (.bool true)], args := [d1, d2] }
  | _ => none }
def clientmsgMoreRow : OpenClaim := { program := "ytclikkhkhoicfaa", sum := "eeea595a90185593fabf4193f3dc5e3522447d238a9f228126fad428fa3d1e2e", func := "mirador/miradorlaw22.ClientmsgMore", spec := "clientmsgMore", inPlace := ["internal/abi.NoEscape"], unfollowed := true, recurses := true, apart := false }
def ClientmsgMoreSaid : Prop := clientmsgMoreRow.holds Try.pinned (OpenSpec.ofChange clientmsgMoreSpec)

/-- ITS FALSE NEIGHBOUR: 'it returns false'. Refute it at one input. -/
def clientmsgMoreWrong : ChangeSpec := { name := "clientmsgMore", fn := fun _ => fun
  | [d1, d2] => { results := [.lit (.bool false)], args := [d1, d2] }
  | _ => none }
def ClientmsgMoreWrongFalsely : Prop := clientmsgMoreRow.holds Try.pinned (OpenSpec.ofChange clientmsgMoreWrong)

/-- 'miradorlaw22.ClientmsgMany': WHATEVER THE INPUT: true; the input reads as it did. -/
def clientmsgManySpec : ChangeSpec := { name := "clientmsgMany", fn := fun _ => fun
  | [d] => { results := [.lit (.bool true)], args := [d] }
  | _ => none }
def clientmsgManyRow : OpenClaim := { program := "ytclikkhkhoicfaa", sum := "eeea595a90185593fabf4193f3dc5e3522447d238a9f228126fad428fa3d1e2e", func := "mirador/miradorlaw22.ClientmsgMany", spec := "clientmsgMany", inPlace := ["internal/abi.NoEscape"], unfollowed := true, recurses := true, apart := false }
def ClientmsgManySaid : Prop := clientmsgManyRow.holds Try.pinned (OpenSpec.ofChange clientmsgManySpec)

/-- ITS FALSE NEIGHBOUR: 'it returns false'. Refute it at one input. -/
def clientmsgManyWrong : ChangeSpec := { name := "clientmsgMany", fn := fun _ => fun
  | [d] => { results := [.lit (.bool false)], args := [d] }
  | _ => none }
def ClientmsgManyWrongFalsely : Prop := clientmsgManyRow.holds Try.pinned (OpenSpec.ofChange clientmsgManyWrong)

/- THE SECOND FORM. 'bulk': how many values and letters a reading holds, each counted each time it is reached (what is shared counts as often as it is met; a slice's spare places count too). A statement '..UptoSaid' is the law's where the arguments, and the package variables that the reading takes, are together of bulk at most 1048576: NARROWER than '..Said'. Prove '..Said' where nothing that the law and all that it calls make is longer than what came in: it says more and counts as full. Else prove '..UptoSaid'. A law counts once. -/
mutual
def uptoBulk {H : Type} : DataW H → Nat
  | .lit (.string bytes) => bytes.length + 1
  | .lit _ => 1
  | .nil => 1
  | .ptr d => uptoBulk d + 1
  | .slice elems spare => uptoBulkAll elems + uptoBulkAll spare + 1
  | .agg parts => uptoBulkAll parts + 1
  | .iface _ d => uptoBulk d + 1
  | .map entries => uptoBulkEntries entries + 1
  | .held _ => 1
def uptoBulkAll {H : Type} : List (DataW H) → Nat
  | [] => 0
  | d :: r => uptoBulk d + uptoBulkAll r
def uptoBulkEntries {H : Type} : List (Lit × DataW H) → Nat
  | [] => 0
  | x :: r => uptoBulkEntry x + uptoBulkEntries r
def uptoBulkEntry {H : Type} : Lit × DataW H → Nat
  | (.string bytes, d) => bytes.length + uptoBulk d + 1
  | (_, d) => uptoBulk d + 1
 end
def uptoSmall : (H : Type) → List (DataW H) → Bool := fun _ ds => decide (uptoBulkAll ds ≤ 1048576)
def OpenSpec.upto (s : _root_.Go.ChangeSpec) : _root_.Go.OpenSpec := { _root_.Go.OpenSpec.ofChange s with cond := some uptoSmall }

/-- 'miradorlaw22.ClientmsgParses', WHERE WHAT IT READS IS OF BULK AT MOST 1048576: true; the input reads as it did. -/
def clientmsgParsesUptoRow : OpenClaim := { program := "ytclikkhkhoicfaa", sum := "eeea595a90185593fabf4193f3dc5e3522447d238a9f228126fad428fa3d1e2e", func := "mirador/miradorlaw22.ClientmsgParses", spec := "clientmsgParses", inPlace := ["internal/abi.NoEscape"], unfollowed := true, recurses := true, apart := false, narrowed := true }
def ClientmsgParsesUptoSaid : Prop := clientmsgParsesUptoRow.holds Try.pinned (OpenSpec.upto clientmsgParsesSpec)

/-- 'miradorlaw22.ClientmsgBack', WHERE WHAT IT READS IS OF BULK AT MOST 1048576: true; the input reads as it did. -/
def clientmsgBackUptoRow : OpenClaim := { program := "ytclikkhkhoicfaa", sum := "eeea595a90185593fabf4193f3dc5e3522447d238a9f228126fad428fa3d1e2e", func := "mirador/miradorlaw22.ClientmsgBack", spec := "clientmsgBack", inPlace := ["internal/abi.NoEscape"], unfollowed := true, recurses := true, apart := false, narrowed := true }
def ClientmsgBackUptoSaid : Prop := clientmsgBackUptoRow.holds Try.pinned (OpenSpec.upto clientmsgBackSpec)

/-- 'miradorlaw22.ClientmsgMore', WHERE WHAT IT READS IS OF BULK AT MOST 1048576: true; the input reads as it did. -/
def clientmsgMoreUptoRow : OpenClaim := { program := "ytclikkhkhoicfaa", sum := "eeea595a90185593fabf4193f3dc5e3522447d238a9f228126fad428fa3d1e2e", func := "mirador/miradorlaw22.ClientmsgMore", spec := "clientmsgMore", inPlace := ["internal/abi.NoEscape"], unfollowed := true, recurses := true, apart := false, narrowed := true }
def ClientmsgMoreUptoSaid : Prop := clientmsgMoreUptoRow.holds Try.pinned (OpenSpec.upto clientmsgMoreSpec)

/-- 'miradorlaw22.ClientmsgMany', WHERE WHAT IT READS IS OF BULK AT MOST 1048576: true; the input reads as it did. -/
def clientmsgManyUptoRow : OpenClaim := { program := "ytclikkhkhoicfaa", sum := "eeea595a90185593fabf4193f3dc5e3522447d238a9f228126fad428fa3d1e2e", func := "mirador/miradorlaw22.ClientmsgMany", spec := "clientmsgMany", inPlace := ["internal/abi.NoEscape"], unfollowed := true, recurses := true, apart := false, narrowed := true }
def ClientmsgManyUptoSaid : Prop := clientmsgManyUptoRow.holds Try.pinned (OpenSpec.upto clientmsgManySpec)

end Rows
end Go.Proofs.Ytclikkhkhoicfaa
