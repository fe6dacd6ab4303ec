/-
  No cell of these rows narrows 'for every input' (looked for: loops, veiled, ifaces, maps, wideKeys, modest, calm, conditions, laid).
  DERIVED. THE GIVEN ROWS OF THIS SEAT. 7 by the template 'for every input the law returns true; each argument reads behind the call as it read before'; 0 by the template 'total and deterministic' (their statements: YtiplcdhnjennfaaGreatTotals.lean).
  GIVEN WITH THE SEED: the statements are not yours to turn. If you find one false, say at which input.
  Laid BY PROGRAM, IN A SANDBOX (cutbox-rows.mjs): the forced cells as the released guide's own fill.sh prints them over the translation cccb9136ec4abb83… (all of the seat's roots in one cut). By AI agents, Wed Nov 11 2026. No macro, syntax, notation, axiom, sorry.
-/
import Derived.Test.YtiplcdhnjennfaaGreatChecked
import GoSem.Claim
import GoSem.ClaimJoined
import GoSem.ClaimMapViews
import Derived.JoinedTies
import Derived.KernelRfl
namespace Go.Proofs.YtiplcdhnjennfaaGreat
/- THE CELL 'sum', in the pinned program and in every row, IS THE sha256 OF THE DUMP (.gsa) THAT YtiplcdhnjennfaaGreatProg.lean LOADS. Nothing in Lean hashes anything: it is a label: what it is worth is what the hold of that sum in a sandbox is worth. -/
noncomputable def Tryz.pinned : Pinned := { name := "ytiplcdhnjennfaagreat", sum := "cccb9136ec4abb838a84ec9596833cf958852b03926f12063cd2227726f9f63b", checked := Tryz.checked }
namespace Rows
def none {H : Type} : Left H := { results := [], args := [] }

/-- 'rondeaulaw22.SnapLoads': WHATEVER THE INPUT: true; the input reads as it did. -/
def snapLoadsSpec : ChangeSpec := { name := "snapLoads", fn := fun _ => fun
  | [d1, d2] => { results := [.lit (.bool true)], args := [d1, d2] }
  | _ => none }
def snapLoadsRow : OpenClaim := { program := "ytiplcdhnjennfaagreat", sum := "cccb9136ec4abb838a84ec9596833cf958852b03926f12063cd2227726f9f63b", func := "rondeau/rondeaulaw22.SnapLoads", spec := "snapLoads", unfollowed := true, recurses := true, apart := false }
def SnapLoadsSaid : Prop := snapLoadsRow.holds Tryz.pinned (OpenSpec.ofChange snapLoadsSpec)

/-- ITS FALSE NEIGHBOUR: 'it returns false'. Refute it at one input. -/
def snapLoadsWrong : ChangeSpec := { name := "snapLoads", fn := fun _ => fun
  | [d1, d2] => { results := [.lit (.bool false)], args := [d1, d2] }
  | _ => none }
def SnapLoadsWrongFalsely : Prop := snapLoadsRow.holds Tryz.pinned (OpenSpec.ofChange snapLoadsWrong)

/-- 'rondeaulaw17.FabricRefuses': WHATEVER THE INPUT: true; the input reads as it did. -/
def fabricRefusesSpec : ChangeSpec := { name := "fabricRefuses", fn := fun _ => fun
  | [d1, d2, d3] => { results := [.lit (.bool true)], args := [d1, d2, d3] }
  | _ => none }
def fabricRefusesRow : OpenClaim := { program := "ytiplcdhnjennfaagreat", sum := "cccb9136ec4abb838a84ec9596833cf958852b03926f12063cd2227726f9f63b", func := "rondeau/rondeaulaw17.FabricRefuses", spec := "fabricRefuses", unfollowed := true, recurses := true, apart := false }
def FabricRefusesSaid : Prop := fabricRefusesRow.holds Tryz.pinned (OpenSpec.ofChange fabricRefusesSpec)

/-- ITS FALSE NEIGHBOUR: 'it returns false'. Refute it at one input. -/
def fabricRefusesWrong : ChangeSpec := { name := "fabricRefuses", fn := fun _ => fun
  | [d1, d2, d3] => { results := [.lit (.bool false)], args := [d1, d2, d3] }
  | _ => none }
def FabricRefusesWrongFalsely : Prop := fabricRefusesRow.holds Tryz.pinned (OpenSpec.ofChange fabricRefusesWrong)

/-- 'rondeaulaw17.FabricRings': WHATEVER THE INPUT: true; the input reads as it did. -/
def fabricRingsSpec : ChangeSpec := { name := "fabricRings", fn := fun _ => fun
  | [d1, d2] => { results := [.lit (.bool true)], args := [d1, d2] }
  | _ => none }
def fabricRingsRow : OpenClaim := { program := "ytiplcdhnjennfaagreat", sum := "cccb9136ec4abb838a84ec9596833cf958852b03926f12063cd2227726f9f63b", func := "rondeau/rondeaulaw17.FabricRings", spec := "fabricRings", unfollowed := true, recurses := true, apart := false }
def FabricRingsSaid : Prop := fabricRingsRow.holds Tryz.pinned (OpenSpec.ofChange fabricRingsSpec)

/-- ITS FALSE NEIGHBOUR: 'it returns false'. Refute it at one input. -/
def fabricRingsWrong : ChangeSpec := { name := "fabricRings", fn := fun _ => fun
  | [d1, d2] => { results := [.lit (.bool false)], args := [d1, d2] }
  | _ => none }
def FabricRingsWrongFalsely : Prop := fabricRingsRow.holds Tryz.pinned (OpenSpec.ofChange fabricRingsWrong)

/-- 'rondeaulaw17.FabricSeen': WHATEVER THE INPUT: true; the input reads as it did. -/
def fabricSeenSpec : ChangeSpec := { name := "fabricSeen", fn := fun _ => fun
  | [d1, d2] => { results := [.lit (.bool true)], args := [d1, d2] }
  | _ => none }
def fabricSeenRow : OpenClaim := { program := "ytiplcdhnjennfaagreat", sum := "cccb9136ec4abb838a84ec9596833cf958852b03926f12063cd2227726f9f63b", func := "rondeau/rondeaulaw17.FabricSeen", spec := "fabricSeen", unfollowed := true, recurses := true, apart := false }
def FabricSeenSaid : Prop := fabricSeenRow.holds Tryz.pinned (OpenSpec.ofChange fabricSeenSpec)

/-- ITS FALSE NEIGHBOUR: 'it returns false'. Refute it at one input. -/
def fabricSeenWrong : ChangeSpec := { name := "fabricSeen", fn := fun _ => fun
  | [d1, d2] => { results := [.lit (.bool false)], args := [d1, d2] }
  | _ => none }
def FabricSeenWrongFalsely : Prop := fabricSeenRow.holds Tryz.pinned (OpenSpec.ofChange fabricSeenWrong)

/-- 'rondeaulaw17.FabricDoes': WHATEVER THE INPUT: true; the input reads as it did. -/
def fabricDoesSpec : ChangeSpec := { name := "fabricDoes", fn := fun _ => fun
  | [d1, d2] => { results := [.lit (.bool true)], args := [d1, d2] }
  | _ => none }
def fabricDoesRow : OpenClaim := { program := "ytiplcdhnjennfaagreat", sum := "cccb9136ec4abb838a84ec9596833cf958852b03926f12063cd2227726f9f63b", func := "rondeau/rondeaulaw17.FabricDoes", spec := "fabricDoes", unfollowed := true, recurses := true, apart := false }
def FabricDoesSaid : Prop := fabricDoesRow.holds Tryz.pinned (OpenSpec.ofChange fabricDoesSpec)

/-- ITS FALSE NEIGHBOUR: 'it returns false'. Refute it at one input. -/
def fabricDoesWrong : ChangeSpec := { name := "fabricDoes", fn := fun _ => fun
  | [d1, d2] => { results := [.lit (.bool false)], args := [d1, d2] }
  | _ => none }
def FabricDoesWrongFalsely : Prop := fabricDoesRow.holds Tryz.pinned (OpenSpec.ofChange fabricDoesWrong)

/-- 'rondeaulaw17.FabricFeeds': WHATEVER THE INPUT: true; the input reads as it did. -/
def fabricFeedsSpec : ChangeSpec := { name := "fabricFeeds", fn := fun _ => fun
  | [d1, d2] => { results := [.lit (.bool true)], args := [d1, d2] }
  | _ => none }
def fabricFeedsRow : OpenClaim := { program := "ytiplcdhnjennfaagreat", sum := "cccb9136ec4abb838a84ec9596833cf958852b03926f12063cd2227726f9f63b", func := "rondeau/rondeaulaw17.FabricFeeds", spec := "fabricFeeds", unfollowed := true, recurses := true, apart := false }
def FabricFeedsSaid : Prop := fabricFeedsRow.holds Tryz.pinned (OpenSpec.ofChange fabricFeedsSpec)

/-- ITS FALSE NEIGHBOUR: 'it returns false'. Refute it at one input. -/
def fabricFeedsWrong : ChangeSpec := { name := "fabricFeeds", fn := fun _ => fun
  | [d1, d2] => { results := [.lit (.bool false)], args := [d1, d2] }
  | _ => none }
def FabricFeedsWrongFalsely : Prop := fabricFeedsRow.holds Tryz.pinned (OpenSpec.ofChange fabricFeedsWrong)

/-- 'rondeaulaw17.FabricStays': WHATEVER THE INPUT: true; the input reads as it did. -/
def fabricStaysSpec : ChangeSpec := { name := "fabricStays", fn := fun _ => fun
  | [d1, d2, d3] => { results := [.lit (.bool true)], args := [d1, d2, d3] }
  | _ => none }
def fabricStaysRow : OpenClaim := { program := "ytiplcdhnjennfaagreat", sum := "cccb9136ec4abb838a84ec9596833cf958852b03926f12063cd2227726f9f63b", func := "rondeau/rondeaulaw17.FabricStays", spec := "fabricStays", unfollowed := true, recurses := true, apart := false }
def FabricStaysSaid : Prop := fabricStaysRow.holds Tryz.pinned (OpenSpec.ofChange fabricStaysSpec)

/-- ITS FALSE NEIGHBOUR: 'it returns false'. Refute it at one input. -/
def fabricStaysWrong : ChangeSpec := { name := "fabricStays", fn := fun _ => fun
  | [d1, d2, d3] => { results := [.lit (.bool false)], args := [d1, d2, d3] }
  | _ => none }
def FabricStaysWrongFalsely : Prop := fabricStaysRow.holds Tryz.pinned (OpenSpec.ofChange fabricStaysWrong)

/- THE SECOND FORM. 'bulk': how many values and letters a reading holds, each counted each time it is reached (what is shared counts as often as it is met; a slice's spare places count too). A statement '..UptoSaid' is the law's where the arguments, and the package variables that the reading takes, are together of bulk at most 1048576: NARROWER than '..Said'. Prove '..Said' where nothing that the law and all that it calls make is longer than what came in: it says more and counts as full. Else prove '..UptoSaid'. A law counts once. -/
mutual
def uptoBulk {H : Type} : DataW H → Nat
  | .lit (.string bytes) => bytes.length + 1
  | .lit _ => 1
  | .nil => 1
  | .ptr d => uptoBulk d + 1
  | .slice elems spare => uptoBulkAll elems + uptoBulkAll spare + 1
  | .agg parts => uptoBulkAll parts + 1
  | .iface _ d => uptoBulk d + 1
  | .map entries => uptoBulkEntries entries + 1
  | .held _ => 1
def uptoBulkAll {H : Type} : List (DataW H) → Nat
  | [] => 0
  | d :: r => uptoBulk d + uptoBulkAll r
def uptoBulkEntries {H : Type} : List (Lit × DataW H) → Nat
  | [] => 0
  | x :: r => uptoBulkEntry x + uptoBulkEntries r
def uptoBulkEntry {H : Type} : Lit × DataW H → Nat
  | (.string bytes, d) => bytes.length + uptoBulk d + 1
  | (_, d) => uptoBulk d + 1
 end
def uptoSmall : (H : Type) → List (DataW H) → Bool := fun _ ds => decide (uptoBulkAll ds ≤ 1048576)
def OpenSpec.upto (s : _root_.Go.ChangeSpec) : _root_.Go.OpenSpec := { _root_.Go.OpenSpec.ofChange s with cond := some uptoSmall }

/-- 'rondeaulaw22.SnapLoads', WHERE WHAT IT READS IS OF BULK AT MOST 1048576: true; the input reads as it did. -/
def snapLoadsUptoRow : OpenClaim := { program := "ytiplcdhnjennfaagreat", sum := "cccb9136ec4abb838a84ec9596833cf958852b03926f12063cd2227726f9f63b", func := "rondeau/rondeaulaw22.SnapLoads", spec := "snapLoads", unfollowed := true, recurses := true, apart := false, narrowed := true }
def SnapLoadsUptoSaid : Prop := snapLoadsUptoRow.holds Tryz.pinned (OpenSpec.upto snapLoadsSpec)

/-- 'rondeaulaw17.FabricRefuses', WHERE WHAT IT READS IS OF BULK AT MOST 1048576: true; the input reads as it did. -/
def fabricRefusesUptoRow : OpenClaim := { program := "ytiplcdhnjennfaagreat", sum := "cccb9136ec4abb838a84ec9596833cf958852b03926f12063cd2227726f9f63b", func := "rondeau/rondeaulaw17.FabricRefuses", spec := "fabricRefuses", unfollowed := true, recurses := true, apart := false, narrowed := true }
def FabricRefusesUptoSaid : Prop := fabricRefusesUptoRow.holds Tryz.pinned (OpenSpec.upto fabricRefusesSpec)

/-- 'rondeaulaw17.FabricRings', WHERE WHAT IT READS IS OF BULK AT MOST 1048576: true; the input reads as it did. -/
def fabricRingsUptoRow : OpenClaim := { program := "ytiplcdhnjennfaagreat", sum := "cccb9136ec4abb838a84ec9596833cf958852b03926f12063cd2227726f9f63b", func := "rondeau/rondeaulaw17.FabricRings", spec := "fabricRings", unfollowed := true, recurses := true, apart := false, narrowed := true }
def FabricRingsUptoSaid : Prop := fabricRingsUptoRow.holds Tryz.pinned (OpenSpec.upto fabricRingsSpec)

/-- 'rondeaulaw17.FabricSeen', WHERE WHAT IT READS IS OF BULK AT MOST 1048576: true; the input reads as it did. -/
def fabricSeenUptoRow : OpenClaim := { program := "ytiplcdhnjennfaagreat", sum := "cccb9136ec4abb838a84ec9596833cf958852b03926f12063cd2227726f9f63b", func := "rondeau/rondeaulaw17.FabricSeen", spec := "fabricSeen", unfollowed := true, recurses := true, apart := false, narrowed := true }
def FabricSeenUptoSaid : Prop := fabricSeenUptoRow.holds Tryz.pinned (OpenSpec.upto fabricSeenSpec)

/-- 'rondeaulaw17.FabricDoes', WHERE WHAT IT READS IS OF BULK AT MOST 1048576: true; the input reads as it did. -/
def fabricDoesUptoRow : OpenClaim := { program := "ytiplcdhnjennfaagreat", sum := "cccb9136ec4abb838a84ec9596833cf958852b03926f12063cd2227726f9f63b", func := "rondeau/rondeaulaw17.FabricDoes", spec := "fabricDoes", unfollowed := true, recurses := true, apart := false, narrowed := true }
def FabricDoesUptoSaid : Prop := fabricDoesUptoRow.holds Tryz.pinned (OpenSpec.upto fabricDoesSpec)

/-- 'rondeaulaw17.FabricFeeds', WHERE WHAT IT READS IS OF BULK AT MOST 1048576: true; the input reads as it did. -/
def fabricFeedsUptoRow : OpenClaim := { program := "ytiplcdhnjennfaagreat", sum := "cccb9136ec4abb838a84ec9596833cf958852b03926f12063cd2227726f9f63b", func := "rondeau/rondeaulaw17.FabricFeeds", spec := "fabricFeeds", unfollowed := true, recurses := true, apart := false, narrowed := true }
def FabricFeedsUptoSaid : Prop := fabricFeedsUptoRow.holds Tryz.pinned (OpenSpec.upto fabricFeedsSpec)

/-- 'rondeaulaw17.FabricStays', WHERE WHAT IT READS IS OF BULK AT MOST 1048576: true; the input reads as it did. -/
def fabricStaysUptoRow : OpenClaim := { program := "ytiplcdhnjennfaagreat", sum := "cccb9136ec4abb838a84ec9596833cf958852b03926f12063cd2227726f9f63b", func := "rondeau/rondeaulaw17.FabricStays", spec := "fabricStays", unfollowed := true, recurses := true, apart := false, narrowed := true }
def FabricStaysUptoSaid : Prop := fabricStaysUptoRow.holds Tryz.pinned (OpenSpec.upto fabricStaysSpec)

end Rows
end Go.Proofs.YtiplcdhnjennfaaGreat
