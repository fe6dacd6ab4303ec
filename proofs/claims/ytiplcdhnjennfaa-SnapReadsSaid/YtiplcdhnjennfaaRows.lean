/-
  No cell of these rows narrows 'for every input' (looked for: loops, veiled, ifaces, maps, wideKeys, modest, calm, conditions, laid).
  DERIVED. THE GIVEN ROWS OF THIS SEAT. 2 by the template 'for every input the law returns true; each argument reads behind the call as it read before'; 0 by the template 'total and deterministic' (their statements: YtiplcdhnjennfaaTotals.lean).
  GIVEN WITH THE SEED: the statements are not yours to turn. If you find one false, say at which input.
  Laid BY PROGRAM, IN A SANDBOX (cutbox-rows.mjs): the forced cells as the released guide's own fill.sh prints them over the translation 19063a39f4ca88cd… (all of the seat's roots in one cut). By AI agents, Wed Nov 11 2026. No macro, syntax, notation, axiom, sorry.
-/
import Derived.Test.YtiplcdhnjennfaaChecked
import GoSem.Claim
import GoSem.ClaimJoined
import GoSem.ClaimMapViews
import Derived.JoinedTies
import Derived.KernelRfl
namespace Go.Proofs.Ytiplcdhnjennfaa
/- THE CELL 'sum', in the pinned program and in every row, IS THE sha256 OF THE DUMP (.gsa) THAT YtiplcdhnjennfaaProg.lean LOADS. Nothing in Lean hashes anything: it is a label: what it is worth is what the hold of that sum in a sandbox is worth. -/
noncomputable def Try.pinned : Pinned := { name := "ytiplcdhnjennfaa", sum := "19063a39f4ca88cd4295c57244d46dfe7ca3e64194482481283184aed275b80f", checked := Try.checked }
namespace Rows
def none {H : Type} : Left H := { results := [], args := [] }

/-- 'rondeaulaw22.SnapPrints': WHATEVER THE INPUT: true; the input reads as it did. -/
def snapPrintsSpec : ChangeSpec := { name := "snapPrints", fn := fun _ => fun
  | [d1, d2] => { results := [.lit (.bool true)], args := [d1, d2] }
  | _ => none }
def snapPrintsRow : OpenClaim := { program := "ytiplcdhnjennfaa", sum := "19063a39f4ca88cd4295c57244d46dfe7ca3e64194482481283184aed275b80f", func := "rondeau/rondeaulaw22.SnapPrints", spec := "snapPrints", unfollowed := true, recurses := true, apart := false }
def SnapPrintsSaid : Prop := snapPrintsRow.holds Try.pinned (OpenSpec.ofChange snapPrintsSpec)

/-- ITS FALSE NEIGHBOUR: 'it returns false'. Refute it at one input. -/
def snapPrintsWrong : ChangeSpec := { name := "snapPrints", fn := fun _ => fun
  | [d1, d2] => { results := [.lit (.bool false)], args := [d1, d2] }
  | _ => none }
def SnapPrintsWrongFalsely : Prop := snapPrintsRow.holds Try.pinned (OpenSpec.ofChange snapPrintsWrong)

/-- 'rondeaulaw22.SnapReads': WHATEVER THE INPUT: true; the input reads as it did. -/
def snapReadsSpec : ChangeSpec := { name := "snapReads", fn := fun _ => fun
  | [d] => { results := [.lit (.bool true)], args := [d] }
  | _ => none }
def snapReadsRow : OpenClaim := { program := "ytiplcdhnjennfaa", sum := "19063a39f4ca88cd4295c57244d46dfe7ca3e64194482481283184aed275b80f", func := "rondeau/rondeaulaw22.SnapReads", spec := "snapReads", unfollowed := true, recurses := true, apart := false }
def SnapReadsSaid : Prop := snapReadsRow.holds Try.pinned (OpenSpec.ofChange snapReadsSpec)

/-- ITS FALSE NEIGHBOUR: 'it returns false'. Refute it at one input. -/
def snapReadsWrong : ChangeSpec := { name := "snapReads", fn := fun _ => fun
  | [d] => { results := [.lit (.bool false)], args := [d] }
  | _ => none }
def SnapReadsWrongFalsely : Prop := snapReadsRow.holds Try.pinned (OpenSpec.ofChange snapReadsWrong)

/- THE SECOND FORM. 'bulk': how many values and letters a reading holds, each counted each time it is reached (what is shared counts as often as it is met; a slice's spare places count too). A statement '..UptoSaid' is the law's where the arguments, and the package variables that the reading takes, are together of bulk at most 1048576: NARROWER than '..Said'. Prove '..Said' where nothing that the law and all that it calls make is longer than what came in: it says more and counts as full. Else prove '..UptoSaid'. A law counts once. -/
mutual
def uptoBulk {H : Type} : DataW H → Nat
  | .lit (.string bytes) => bytes.length + 1
  | .lit _ => 1
  | .nil => 1
  | .ptr d => uptoBulk d + 1
  | .slice elems spare => uptoBulkAll elems + uptoBulkAll spare + 1
  | .agg parts => uptoBulkAll parts + 1
  | .iface _ d => uptoBulk d + 1
  | .map entries => uptoBulkEntries entries + 1
  | .held _ => 1
def uptoBulkAll {H : Type} : List (DataW H) → Nat
  | [] => 0
  | d :: r => uptoBulk d + uptoBulkAll r
def uptoBulkEntries {H : Type} : List (Lit × DataW H) → Nat
  | [] => 0
  | x :: r => uptoBulkEntry x + uptoBulkEntries r
def uptoBulkEntry {H : Type} : Lit × DataW H → Nat
  | (.string bytes, d) => bytes.length + uptoBulk d + 1
  | (_, d) => uptoBulk d + 1
 end
def uptoSmall : (H : Type) → List (DataW H) → Bool := fun _ ds => decide (uptoBulkAll ds ≤ 1048576)
def OpenSpec.upto (s : _root_.Go.ChangeSpec) : _root_.Go.OpenSpec := { _root_.Go.OpenSpec.ofChange s with cond := some uptoSmall }

/-- 'rondeaulaw22.SnapPrints', WHERE WHAT IT READS IS OF BULK AT MOST 1048576: true; the input reads as it did. -/
def snapPrintsUptoRow : OpenClaim := { program := "ytiplcdhnjennfaa", sum := "19063a39f4ca88cd4295c57244d46dfe7ca3e64194482481283184aed275b80f", func := "rondeau/rondeaulaw22.SnapPrints", spec := "snapPrints", unfollowed := true, recurses := true, apart := false, narrowed := true }
def SnapPrintsUptoSaid : Prop := snapPrintsUptoRow.holds Try.pinned (OpenSpec.upto snapPrintsSpec)

/-- 'rondeaulaw22.SnapReads', WHERE WHAT IT READS IS OF BULK AT MOST 1048576: true; the input reads as it did. -/
def snapReadsUptoRow : OpenClaim := { program := "ytiplcdhnjennfaa", sum := "19063a39f4ca88cd4295c57244d46dfe7ca3e64194482481283184aed275b80f", func := "rondeau/rondeaulaw22.SnapReads", spec := "snapReads", unfollowed := true, recurses := true, apart := false, narrowed := true }
def SnapReadsUptoSaid : Prop := snapReadsUptoRow.holds Try.pinned (OpenSpec.upto snapReadsSpec)

end Rows
end Go.Proofs.Ytiplcdhnjennfaa
