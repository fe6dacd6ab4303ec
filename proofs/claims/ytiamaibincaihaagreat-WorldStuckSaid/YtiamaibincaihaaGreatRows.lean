/-
  No cell of these rows narrows 'for every input' (looked for: loops, veiled, ifaces, maps, wideKeys, modest, calm, conditions, laid).
  DERIVED. THE GIVEN ROWS OF THIS SEAT. 8 by the template 'for every input the law returns true; each argument reads behind the call as it read before'; 0 by the template 'total and deterministic' (their statements: YtiamaibincaihaaGreatTotals.lean).
  GIVEN WITH THE SEED: the statements are not yours to turn. If you find one false, say at which input.
  Laid BY PROGRAM, IN A SANDBOX (cutbox-rows.mjs): the forced cells as the released guide's own fill.sh prints them over the translation 7558e127a73d54ab… (all of the seat's roots in one cut). By AI agents, Wed Nov 11 2026. No macro, syntax, notation, axiom, sorry.
-/
import Derived.Test.YtiamaibincaihaaGreatChecked
import GoSem.Claim
import GoSem.ClaimJoined
import GoSem.ClaimMapViews
import Derived.JoinedTies
import Derived.KernelRfl
namespace Go.Proofs.YtiamaibincaihaaGreat
/- THE CELL 'sum', in the pinned program and in every row, IS THE sha256 OF THE DUMP (.gsa) THAT YtiamaibincaihaaGreatProg.lean LOADS. Nothing in Lean hashes anything: it is a label: what it is worth is what the hold of that sum in a sandbox is worth. -/
noncomputable def Tryz.pinned : Pinned := { name := "ytiamaibincaihaagreat", sum := "7558e127a73d54ab9c2454439ba7e859733ae4549db9e14b854f5475fa14f6a0", checked := Tryz.checked }
namespace Rows
def none {H : Type} : Left H := { results := [], args := [] }

/-- 'rondeaulaw18.WorldSteps': WHATEVER THE INPUT: true; the input reads as it did. -/
def worldStepsSpec : ChangeSpec := { name := "worldSteps", fn := fun _ => fun
  | [d1, d2, d3] => { results := [.lit (.bool true)], args := [d1, d2, d3] }
  | _ => none }
def worldStepsRow : OpenClaim := { program := "ytiamaibincaihaagreat", sum := "7558e127a73d54ab9c2454439ba7e859733ae4549db9e14b854f5475fa14f6a0", func := "rondeau/rondeaulaw18.WorldSteps", spec := "worldSteps", unfollowed := true, recurses := true, apart := false }
def WorldStepsSaid : Prop := worldStepsRow.holds Tryz.pinned (OpenSpec.ofChange worldStepsSpec)

/-- ITS FALSE NEIGHBOUR: 'it returns false'. Refute it at one input. -/
def worldStepsWrong : ChangeSpec := { name := "worldSteps", fn := fun _ => fun
  | [d1, d2, d3] => { results := [.lit (.bool false)], args := [d1, d2, d3] }
  | _ => none }
def WorldStepsWrongFalsely : Prop := worldStepsRow.holds Tryz.pinned (OpenSpec.ofChange worldStepsWrong)

/-- 'rondeaulaw18.WorldRuns': WHATEVER THE INPUT: true; the input reads as it did. -/
def worldRunsSpec : ChangeSpec := { name := "worldRuns", fn := fun _ => fun
  | [d1, d2, d3] => { results := [.lit (.bool true)], args := [d1, d2, d3] }
  | _ => none }
def worldRunsRow : OpenClaim := { program := "ytiamaibincaihaagreat", sum := "7558e127a73d54ab9c2454439ba7e859733ae4549db9e14b854f5475fa14f6a0", func := "rondeau/rondeaulaw18.WorldRuns", spec := "worldRuns", unfollowed := true, recurses := true, apart := false }
def WorldRunsSaid : Prop := worldRunsRow.holds Tryz.pinned (OpenSpec.ofChange worldRunsSpec)

/-- ITS FALSE NEIGHBOUR: 'it returns false'. Refute it at one input. -/
def worldRunsWrong : ChangeSpec := { name := "worldRuns", fn := fun _ => fun
  | [d1, d2, d3] => { results := [.lit (.bool false)], args := [d1, d2, d3] }
  | _ => none }
def WorldRunsWrongFalsely : Prop := worldRunsRow.holds Tryz.pinned (OpenSpec.ofChange worldRunsWrong)

/-- 'rondeaulaw18.WorldMakes': WHATEVER THE INPUT: true; the input reads as it did. -/
def worldMakesSpec : ChangeSpec := { name := "worldMakes", fn := fun _ => fun
  | [d1, d2] => { results := [.lit (.bool true)], args := [d1, d2] }
  | _ => none }
def worldMakesRow : OpenClaim := { program := "ytiamaibincaihaagreat", sum := "7558e127a73d54ab9c2454439ba7e859733ae4549db9e14b854f5475fa14f6a0", func := "rondeau/rondeaulaw18.WorldMakes", spec := "worldMakes", unfollowed := true, recurses := true, apart := false }
def WorldMakesSaid : Prop := worldMakesRow.holds Tryz.pinned (OpenSpec.ofChange worldMakesSpec)

/-- ITS FALSE NEIGHBOUR: 'it returns false'. Refute it at one input. -/
def worldMakesWrong : ChangeSpec := { name := "worldMakes", fn := fun _ => fun
  | [d1, d2] => { results := [.lit (.bool false)], args := [d1, d2] }
  | _ => none }
def WorldMakesWrongFalsely : Prop := worldMakesRow.holds Tryz.pinned (OpenSpec.ofChange worldMakesWrong)

/-- 'rondeaulaw18.WorldIdle': WHATEVER THE INPUT: true; the input reads as it did. -/
def worldIdleSpec : ChangeSpec := { name := "worldIdle", fn := fun _ => fun
  | [d1, d2, d3, d4] => { results := [.lit (.bool true)], args := [d1, d2, d3, d4] }
  | _ => none }
def worldIdleRow : OpenClaim := { program := "ytiamaibincaihaagreat", sum := "7558e127a73d54ab9c2454439ba7e859733ae4549db9e14b854f5475fa14f6a0", func := "rondeau/rondeaulaw18.WorldIdle", spec := "worldIdle", unfollowed := true, recurses := true, apart := false }
def WorldIdleSaid : Prop := worldIdleRow.holds Tryz.pinned (OpenSpec.ofChange worldIdleSpec)

/-- ITS FALSE NEIGHBOUR: 'it returns false'. Refute it at one input. -/
def worldIdleWrong : ChangeSpec := { name := "worldIdle", fn := fun _ => fun
  | [d1, d2, d3, d4] => { results := [.lit (.bool false)], args := [d1, d2, d3, d4] }
  | _ => none }
def WorldIdleWrongFalsely : Prop := worldIdleRow.holds Tryz.pinned (OpenSpec.ofChange worldIdleWrong)

/-- 'rondeaulaw18.WorldSame': WHATEVER THE INPUT: true; the input reads as it did. -/
def worldSameSpec : ChangeSpec := { name := "worldSame", fn := fun _ => fun
  | [d1, d2, d3] => { results := [.lit (.bool true)], args := [d1, d2, d3] }
  | _ => none }
def worldSameRow : OpenClaim := { program := "ytiamaibincaihaagreat", sum := "7558e127a73d54ab9c2454439ba7e859733ae4549db9e14b854f5475fa14f6a0", func := "rondeau/rondeaulaw18.WorldSame", spec := "worldSame", unfollowed := true, recurses := true, apart := false }
def WorldSameSaid : Prop := worldSameRow.holds Tryz.pinned (OpenSpec.ofChange worldSameSpec)

/-- ITS FALSE NEIGHBOUR: 'it returns false'. Refute it at one input. -/
def worldSameWrong : ChangeSpec := { name := "worldSame", fn := fun _ => fun
  | [d1, d2, d3] => { results := [.lit (.bool false)], args := [d1, d2, d3] }
  | _ => none }
def WorldSameWrongFalsely : Prop := worldSameRow.holds Tryz.pinned (OpenSpec.ofChange worldSameWrong)

/-- 'rondeaulaw18.WorldParts': WHATEVER THE INPUT: true; the input reads as it did. -/
def worldPartsSpec : ChangeSpec := { name := "worldParts", fn := fun _ => fun
  | [d1, d2, d3] => { results := [.lit (.bool true)], args := [d1, d2, d3] }
  | _ => none }
def worldPartsRow : OpenClaim := { program := "ytiamaibincaihaagreat", sum := "7558e127a73d54ab9c2454439ba7e859733ae4549db9e14b854f5475fa14f6a0", func := "rondeau/rondeaulaw18.WorldParts", spec := "worldParts", unfollowed := true, recurses := true, apart := false }
def WorldPartsSaid : Prop := worldPartsRow.holds Tryz.pinned (OpenSpec.ofChange worldPartsSpec)

/-- ITS FALSE NEIGHBOUR: 'it returns false'. Refute it at one input. -/
def worldPartsWrong : ChangeSpec := { name := "worldParts", fn := fun _ => fun
  | [d1, d2, d3] => { results := [.lit (.bool false)], args := [d1, d2, d3] }
  | _ => none }
def WorldPartsWrongFalsely : Prop := worldPartsRow.holds Tryz.pinned (OpenSpec.ofChange worldPartsWrong)

/-- 'rondeaulaw18.WorldStuck': WHATEVER THE INPUT: true; the input reads as it did. -/
def worldStuckSpec : ChangeSpec := { name := "worldStuck", fn := fun _ => fun
  | [d1, d2, d3] => { results := [.lit (.bool true)], args := [d1, d2, d3] }
  | _ => none }
def worldStuckRow : OpenClaim := { program := "ytiamaibincaihaagreat", sum := "7558e127a73d54ab9c2454439ba7e859733ae4549db9e14b854f5475fa14f6a0", func := "rondeau/rondeaulaw18.WorldStuck", spec := "worldStuck", unfollowed := true, recurses := true, apart := false }
def WorldStuckSaid : Prop := worldStuckRow.holds Tryz.pinned (OpenSpec.ofChange worldStuckSpec)

/-- ITS FALSE NEIGHBOUR: 'it returns false'. Refute it at one input. -/
def worldStuckWrong : ChangeSpec := { name := "worldStuck", fn := fun _ => fun
  | [d1, d2, d3] => { results := [.lit (.bool false)], args := [d1, d2, d3] }
  | _ => none }
def WorldStuckWrongFalsely : Prop := worldStuckRow.holds Tryz.pinned (OpenSpec.ofChange worldStuckWrong)

/-- 'rondeaulaw22.SnapGoesOn': WHATEVER THE INPUT: true; the input reads as it did. -/
def snapGoesOnSpec : ChangeSpec := { name := "snapGoesOn", fn := fun _ => fun
  | [d1, d2, d3] => { results := [.lit (.bool true)], args := [d1, d2, d3] }
  | _ => none }
def snapGoesOnRow : OpenClaim := { program := "ytiamaibincaihaagreat", sum := "7558e127a73d54ab9c2454439ba7e859733ae4549db9e14b854f5475fa14f6a0", func := "rondeau/rondeaulaw22.SnapGoesOn", spec := "snapGoesOn", unfollowed := true, recurses := true, apart := false }
def SnapGoesOnSaid : Prop := snapGoesOnRow.holds Tryz.pinned (OpenSpec.ofChange snapGoesOnSpec)

/-- ITS FALSE NEIGHBOUR: 'it returns false'. Refute it at one input. -/
def snapGoesOnWrong : ChangeSpec := { name := "snapGoesOn", fn := fun _ => fun
  | [d1, d2, d3] => { results := [.lit (.bool false)], args := [d1, d2, d3] }
  | _ => none }
def SnapGoesOnWrongFalsely : Prop := snapGoesOnRow.holds Tryz.pinned (OpenSpec.ofChange snapGoesOnWrong)

/- THE SECOND FORM. 'bulk': how many values and letters a reading holds, each counted each time it is reached (what is shared counts as often as it is met; a slice's spare places count too). A statement '..UptoSaid' is the law's where the arguments, and the package variables that the reading takes, are together of bulk at most 1048576: NARROWER than '..Said'. Prove '..Said' where nothing that the law and all that it calls make is longer than what came in: it says more and counts as full. Else prove '..UptoSaid'. A law counts once. -/
mutual
def uptoBulk {H : Type} : DataW H → Nat
  | .lit (.string bytes) => bytes.length + 1
  | .lit _ => 1
  | .nil => 1
  | .ptr d => uptoBulk d + 1
  | .slice elems spare => uptoBulkAll elems + uptoBulkAll spare + 1
  | .agg parts => uptoBulkAll parts + 1
  | .iface _ d => uptoBulk d + 1
  | .map entries => uptoBulkEntries entries + 1
  | .held _ => 1
def uptoBulkAll {H : Type} : List (DataW H) → Nat
  | [] => 0
  | d :: r => uptoBulk d + uptoBulkAll r
def uptoBulkEntries {H : Type} : List (Lit × DataW H) → Nat
  | [] => 0
  | x :: r => uptoBulkEntry x + uptoBulkEntries r
def uptoBulkEntry {H : Type} : Lit × DataW H → Nat
  | (.string bytes, d) => bytes.length + uptoBulk d + 1
  | (_, d) => uptoBulk d + 1
 end
def uptoSmall : (H : Type) → List (DataW H) → Bool := fun _ ds => decide (uptoBulkAll ds ≤ 1048576)
def OpenSpec.upto (s : _root_.Go.ChangeSpec) : _root_.Go.OpenSpec := { _root_.Go.OpenSpec.ofChange s with cond := some uptoSmall }

/-- 'rondeaulaw18.WorldSteps', WHERE WHAT IT READS IS OF BULK AT MOST 1048576: true; the input reads as it did. -/
def worldStepsUptoRow : OpenClaim := { program := "ytiamaibincaihaagreat", sum := "7558e127a73d54ab9c2454439ba7e859733ae4549db9e14b854f5475fa14f6a0", func := "rondeau/rondeaulaw18.WorldSteps", spec := "worldSteps", unfollowed := true, recurses := true, apart := false, narrowed := true }
def WorldStepsUptoSaid : Prop := worldStepsUptoRow.holds Tryz.pinned (OpenSpec.upto worldStepsSpec)

/-- 'rondeaulaw18.WorldRuns', WHERE WHAT IT READS IS OF BULK AT MOST 1048576: true; the input reads as it did. -/
def worldRunsUptoRow : OpenClaim := { program := "ytiamaibincaihaagreat", sum := "7558e127a73d54ab9c2454439ba7e859733ae4549db9e14b854f5475fa14f6a0", func := "rondeau/rondeaulaw18.WorldRuns", spec := "worldRuns", unfollowed := true, recurses := true, apart := false, narrowed := true }
def WorldRunsUptoSaid : Prop := worldRunsUptoRow.holds Tryz.pinned (OpenSpec.upto worldRunsSpec)

/-- 'rondeaulaw18.WorldMakes', WHERE WHAT IT READS IS OF BULK AT MOST 1048576: true; the input reads as it did. -/
def worldMakesUptoRow : OpenClaim := { program := "ytiamaibincaihaagreat", sum := "7558e127a73d54ab9c2454439ba7e859733ae4549db9e14b854f5475fa14f6a0", func := "rondeau/rondeaulaw18.WorldMakes", spec := "worldMakes", unfollowed := true, recurses := true, apart := false, narrowed := true }
def WorldMakesUptoSaid : Prop := worldMakesUptoRow.holds Tryz.pinned (OpenSpec.upto worldMakesSpec)

/-- 'rondeaulaw18.WorldIdle', WHERE WHAT IT READS IS OF BULK AT MOST 1048576: true; the input reads as it did. -/
def worldIdleUptoRow : OpenClaim := { program := "ytiamaibincaihaagreat", sum := "7558e127a73d54ab9c2454439ba7e859733ae4549db9e14b854f5475fa14f6a0", func := "rondeau/rondeaulaw18.WorldIdle", spec := "worldIdle", unfollowed := true, recurses := true, apart := false, narrowed := true }
def WorldIdleUptoSaid : Prop := worldIdleUptoRow.holds Tryz.pinned (OpenSpec.upto worldIdleSpec)

/-- 'rondeaulaw18.WorldSame', WHERE WHAT IT READS IS OF BULK AT MOST 1048576: true; the input reads as it did. -/
def worldSameUptoRow : OpenClaim := { program := "ytiamaibincaihaagreat", sum := "7558e127a73d54ab9c2454439ba7e859733ae4549db9e14b854f5475fa14f6a0", func := "rondeau/rondeaulaw18.WorldSame", spec := "worldSame", unfollowed := true, recurses := true, apart := false, narrowed := true }
def WorldSameUptoSaid : Prop := worldSameUptoRow.holds Tryz.pinned (OpenSpec.upto worldSameSpec)

/-- 'rondeaulaw18.WorldParts', WHERE WHAT IT READS IS OF BULK AT MOST 1048576: true; the input reads as it did. -/
def worldPartsUptoRow : OpenClaim := { program := "ytiamaibincaihaagreat", sum := "7558e127a73d54ab9c2454439ba7e859733ae4549db9e14b854f5475fa14f6a0", func := "rondeau/rondeaulaw18.WorldParts", spec := "worldParts", unfollowed := true, recurses := true, apart := false, narrowed := true }
def WorldPartsUptoSaid : Prop := worldPartsUptoRow.holds Tryz.pinned (OpenSpec.upto worldPartsSpec)

/-- 'rondeaulaw18.WorldStuck', WHERE WHAT IT READS IS OF BULK AT MOST 1048576: true; the input reads as it did. -/
def worldStuckUptoRow : OpenClaim := { program := "ytiamaibincaihaagreat", sum := "7558e127a73d54ab9c2454439ba7e859733ae4549db9e14b854f5475fa14f6a0", func := "rondeau/rondeaulaw18.WorldStuck", spec := "worldStuck", unfollowed := true, recurses := true, apart := false, narrowed := true }
def WorldStuckUptoSaid : Prop := worldStuckUptoRow.holds Tryz.pinned (OpenSpec.upto worldStuckSpec)

/-- 'rondeaulaw22.SnapGoesOn', WHERE WHAT IT READS IS OF BULK AT MOST 1048576: true; the input reads as it did. -/
def snapGoesOnUptoRow : OpenClaim := { program := "ytiamaibincaihaagreat", sum := "7558e127a73d54ab9c2454439ba7e859733ae4549db9e14b854f5475fa14f6a0", func := "rondeau/rondeaulaw22.SnapGoesOn", spec := "snapGoesOn", unfollowed := true, recurses := true, apart := false, narrowed := true }
def SnapGoesOnUptoSaid : Prop := snapGoesOnUptoRow.holds Tryz.pinned (OpenSpec.upto snapGoesOnSpec)

end Rows
end Go.Proofs.YtiamaibincaihaaGreat
