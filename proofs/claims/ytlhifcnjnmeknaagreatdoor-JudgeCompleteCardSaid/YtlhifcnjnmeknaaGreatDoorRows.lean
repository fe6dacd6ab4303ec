/-
  NARROWER THAN 'FOR EVERY INPUT', by the rows' own cells (each row's printed sentence says how): JudgeFirst: laid · JudgeCan: laid · JudgeStuck: laid · JudgeWhy: laid · JudgeAllows: laid · JudgeStays: laid · JudgeSound: laid · JudgeComplete: laid.
  DERIVED. THE GIVEN ROWS OF THIS SEAT. 8 by the template 'for every input the law returns true; each argument reads behind the call as it read before'; 0 by the template 'total and deterministic' (their statements: YtlhifcnjnmeknaaGreatDoorTotals.lean).
  GIVEN WITH THE SEED: the statements are not yours to turn. If you find one false, say at which input.
  Laid BY PROGRAM, IN A SANDBOX (cutbox-rows.mjs): the forced cells as the released guide's own fill.sh prints them over the translation 32d57e2d195f0403… (all of the seat's roots in one cut). By AI agents, Wed Nov 11 2026. No macro, syntax, notation, axiom, sorry.
-/
import Derived.Test.YtlhifcnjnmeknaaGreatDoorChecked
import GoSem.Claim
import GoSem.ClaimJoined
import GoSem.ClaimMapViews
import Derived.JoinedTies
import Derived.KernelRfl
namespace Go.Proofs.YtlhifcnjnmeknaaGreatDoor
/- THE CELL 'sum', in the pinned program and in every row, IS THE sha256 OF THE DUMP (.gsa) THAT YtlhifcnjnmeknaaGreatDoorProg.lean LOADS. Nothing in Lean hashes anything: it is a label: what it is worth is what the hold of that sum in a sandbox is worth. -/
noncomputable def Tryz.pinned : Pinned := { name := "ytlhifcnjnmeknaagreatdoor", sum := "32d57e2d195f0403df41c8ccf682b49c85f2a1f7baa59f67565b5c8e45fa1421", checked := Tryz.checked }
namespace Rows
def none {H : Type} : Left H := { results := [], args := [] }

/- WHAT THE LISTED PACKAGE-LEVEL VARIABLES READ AS WHEN THE CALL BEGINS. Each datum BY PROGRAM (the guide's laid-datum.mjs) off the statement by which the dump's own 'gosem.cut.vars' lays the variable. In a bare row this is a premise. The card (YtlhifcnjnmeknaaGreatDoorCards.lean) ties it to the program's text. -/
def laid_math_bits_deBruijn32tab {H : Type} : DataW H := .agg [.lit (.int .u8 0), .lit (.int .u8 1), .lit (.int .u8 28), .lit (.int .u8 2), .lit (.int .u8 29), .lit (.int .u8 14), .lit (.int .u8 24), .lit (.int .u8 3), .lit (.int .u8 30), .lit (.int .u8 22), .lit (.int .u8 20), .lit (.int .u8 15), .lit (.int .u8 25), .lit (.int .u8 17), .lit (.int .u8 4), .lit (.int .u8 8), .lit (.int .u8 31), .lit (.int .u8 27), .lit (.int .u8 13), .lit (.int .u8 23), .lit (.int .u8 21), .lit (.int .u8 19), .lit (.int .u8 16), .lit (.int .u8 7), .lit (.int .u8 26), .lit (.int .u8 12), .lit (.int .u8 18), .lit (.int .u8 6), .lit (.int .u8 11), .lit (.int .u8 5), .lit (.int .u8 10), .lit (.int .u8 9)]
def laid_math_bits_deBruijn64tab {H : Type} : DataW H := .agg [.lit (.int .u8 0), .lit (.int .u8 1), .lit (.int .u8 56), .lit (.int .u8 2), .lit (.int .u8 57), .lit (.int .u8 49), .lit (.int .u8 28), .lit (.int .u8 3), .lit (.int .u8 61), .lit (.int .u8 58), .lit (.int .u8 42), .lit (.int .u8 50), .lit (.int .u8 38), .lit (.int .u8 29), .lit (.int .u8 17), .lit (.int .u8 4), .lit (.int .u8 62), .lit (.int .u8 47), .lit (.int .u8 59), .lit (.int .u8 36), .lit (.int .u8 45), .lit (.int .u8 43), .lit (.int .u8 51), .lit (.int .u8 22), .lit (.int .u8 53), .lit (.int .u8 39), .lit (.int .u8 33), .lit (.int .u8 30), .lit (.int .u8 24), .lit (.int .u8 18), .lit (.int .u8 12), .lit (.int .u8 5), .lit (.int .u8 63), .lit (.int .u8 55), .lit (.int .u8 48), .lit (.int .u8 27), .lit (.int .u8 60), .lit (.int .u8 41), .lit (.int .u8 37), .lit (.int .u8 16), .lit (.int .u8 46), .lit (.int .u8 35), .lit (.int .u8 44), .lit (.int .u8 21), .lit (.int .u8 52), .lit (.int .u8 32), .lit (.int .u8 23), .lit (.int .u8 11), .lit (.int .u8 54), .lit (.int .u8 26), .lit (.int .u8 40), .lit (.int .u8 15), .lit (.int .u8 34), .lit (.int .u8 20), .lit (.int .u8 31), .lit (.int .u8 10), .lit (.int .u8 25), .lit (.int .u8 14), .lit (.int .u8 19), .lit (.int .u8 9), .lit (.int .u8 13), .lit (.int .u8 8), .lit (.int .u8 7), .lit (.int .u8 6)]
def laid_internal_strconv_uint64pow10 {H : Type} : DataW H := .agg [.lit (.int .u64 1), .lit (.int .u64 10), .lit (.int .u64 100), .lit (.int .u64 1000), .lit (.int .u64 10000), .lit (.int .u64 100000), .lit (.int .u64 1000000), .lit (.int .u64 10000000), .lit (.int .u64 100000000), .lit (.int .u64 1000000000), .lit (.int .u64 10000000000), .lit (.int .u64 100000000000), .lit (.int .u64 1000000000000), .lit (.int .u64 10000000000000), .lit (.int .u64 100000000000000), .lit (.int .u64 1000000000000000), .lit (.int .u64 10000000000000000), .lit (.int .u64 100000000000000000), .lit (.int .u64 1000000000000000000), .lit (.int .u64 10000000000000000000)]

/-- 'rondeaulaw24.JudgeFirst': WHATEVER THE INPUT: true; the input reads as it did. -/
def judgeFirstSpec : ChangeSpec := { name := "judgeFirst", fn := fun _ => fun
  | [d1, d2] => { results := [.lit (.bool true)], args := [d1, d2] }
  | _ => none }
def judgeFirstRow : OpenClaim := { program := "ytlhifcnjnmeknaagreatdoor", sum := "32d57e2d195f0403df41c8ccf682b49c85f2a1f7baa59f67565b5c8e45fa1421", func := "rondeau/rondeaulaw24.JudgeFirst", spec := "judgeFirst", inPlace := ["internal/abi.NoEscape", "internal/bytealg.MakeNoZero"], unfollowed := true, recurses := true, named := ["internal/strconv.uint64pow10", "math/bits.deBruijn32tab", "math/bits.deBruijn64tab"], apart := false, laid := [("math/bits.deBruijn32tab", laid_math_bits_deBruijn32tab), ("math/bits.deBruijn64tab", laid_math_bits_deBruijn64tab), ("internal/strconv.uint64pow10", laid_internal_strconv_uint64pow10)] }
def JudgeFirstSaid : Prop := judgeFirstRow.holds Tryz.pinned (OpenSpec.ofChange judgeFirstSpec)

/-- ITS FALSE NEIGHBOUR: 'it returns false'. Refute it at one input. -/
def judgeFirstWrong : ChangeSpec := { name := "judgeFirst", fn := fun _ => fun
  | [d1, d2] => { results := [.lit (.bool false)], args := [d1, d2] }
  | _ => none }
def JudgeFirstWrongFalsely : Prop := judgeFirstRow.holds Tryz.pinned (OpenSpec.ofChange judgeFirstWrong)

/-- 'rondeaulaw24.JudgeCan': WHATEVER THE INPUT: true; the input reads as it did. -/
def judgeCanSpec : ChangeSpec := { name := "judgeCan", fn := fun _ => fun
  | [d1, d2, d3] => { results := [.lit (.bool true)], args := [d1, d2, d3] }
  | _ => none }
def judgeCanRow : OpenClaim := { program := "ytlhifcnjnmeknaagreatdoor", sum := "32d57e2d195f0403df41c8ccf682b49c85f2a1f7baa59f67565b5c8e45fa1421", func := "rondeau/rondeaulaw24.JudgeCan", spec := "judgeCan", inPlace := ["internal/abi.NoEscape", "internal/bytealg.MakeNoZero"], unfollowed := true, recurses := true, named := ["internal/strconv.uint64pow10", "math/bits.deBruijn32tab", "math/bits.deBruijn64tab"], apart := false, laid := [("math/bits.deBruijn32tab", laid_math_bits_deBruijn32tab), ("math/bits.deBruijn64tab", laid_math_bits_deBruijn64tab), ("internal/strconv.uint64pow10", laid_internal_strconv_uint64pow10)] }
def JudgeCanSaid : Prop := judgeCanRow.holds Tryz.pinned (OpenSpec.ofChange judgeCanSpec)

/-- ITS FALSE NEIGHBOUR: 'it returns false'. Refute it at one input. -/
def judgeCanWrong : ChangeSpec := { name := "judgeCan", fn := fun _ => fun
  | [d1, d2, d3] => { results := [.lit (.bool false)], args := [d1, d2, d3] }
  | _ => none }
def JudgeCanWrongFalsely : Prop := judgeCanRow.holds Tryz.pinned (OpenSpec.ofChange judgeCanWrong)

/-- 'rondeaulaw24.JudgeStuck': WHATEVER THE INPUT: true; the input reads as it did. -/
def judgeStuckSpec : ChangeSpec := { name := "judgeStuck", fn := fun _ => fun
  | [d1, d2] => { results := [.lit (.bool true)], args := [d1, d2] }
  | _ => none }
def judgeStuckRow : OpenClaim := { program := "ytlhifcnjnmeknaagreatdoor", sum := "32d57e2d195f0403df41c8ccf682b49c85f2a1f7baa59f67565b5c8e45fa1421", func := "rondeau/rondeaulaw24.JudgeStuck", spec := "judgeStuck", inPlace := ["internal/abi.NoEscape", "internal/bytealg.MakeNoZero"], unfollowed := true, recurses := true, named := ["internal/strconv.uint64pow10", "math/bits.deBruijn32tab", "math/bits.deBruijn64tab"], apart := false, laid := [("math/bits.deBruijn32tab", laid_math_bits_deBruijn32tab), ("math/bits.deBruijn64tab", laid_math_bits_deBruijn64tab), ("internal/strconv.uint64pow10", laid_internal_strconv_uint64pow10)] }
def JudgeStuckSaid : Prop := judgeStuckRow.holds Tryz.pinned (OpenSpec.ofChange judgeStuckSpec)

/-- ITS FALSE NEIGHBOUR: 'it returns false'. Refute it at one input. -/
def judgeStuckWrong : ChangeSpec := { name := "judgeStuck", fn := fun _ => fun
  | [d1, d2] => { results := [.lit (.bool false)], args := [d1, d2] }
  | _ => none }
def JudgeStuckWrongFalsely : Prop := judgeStuckRow.holds Tryz.pinned (OpenSpec.ofChange judgeStuckWrong)

/-- 'rondeaulaw24.JudgeWhy': WHATEVER THE INPUT: true; the input reads as it did. -/
def judgeWhySpec : ChangeSpec := { name := "judgeWhy", fn := fun _ => fun
  | [d1, d2] => { results := [.lit (.bool true)], args := [d1, d2] }
  | _ => none }
def judgeWhyRow : OpenClaim := { program := "ytlhifcnjnmeknaagreatdoor", sum := "32d57e2d195f0403df41c8ccf682b49c85f2a1f7baa59f67565b5c8e45fa1421", func := "rondeau/rondeaulaw24.JudgeWhy", spec := "judgeWhy", inPlace := ["internal/abi.NoEscape", "internal/bytealg.MakeNoZero"], unfollowed := true, recurses := true, named := ["internal/strconv.uint64pow10", "math/bits.deBruijn32tab", "math/bits.deBruijn64tab"], apart := false, laid := [("math/bits.deBruijn32tab", laid_math_bits_deBruijn32tab), ("math/bits.deBruijn64tab", laid_math_bits_deBruijn64tab), ("internal/strconv.uint64pow10", laid_internal_strconv_uint64pow10)] }
def JudgeWhySaid : Prop := judgeWhyRow.holds Tryz.pinned (OpenSpec.ofChange judgeWhySpec)

/-- ITS FALSE NEIGHBOUR: 'it returns false'. Refute it at one input. -/
def judgeWhyWrong : ChangeSpec := { name := "judgeWhy", fn := fun _ => fun
  | [d1, d2] => { results := [.lit (.bool false)], args := [d1, d2] }
  | _ => none }
def JudgeWhyWrongFalsely : Prop := judgeWhyRow.holds Tryz.pinned (OpenSpec.ofChange judgeWhyWrong)

/-- 'rondeaulaw24.JudgeAllows': WHATEVER THE INPUT: true; the input reads as it did. -/
def judgeAllowsSpec : ChangeSpec := { name := "judgeAllows", fn := fun _ => fun
  | [d1, d2, d3] => { results := [.lit (.bool true)], args := [d1, d2, d3] }
  | _ => none }
def judgeAllowsRow : OpenClaim := { program := "ytlhifcnjnmeknaagreatdoor", sum := "32d57e2d195f0403df41c8ccf682b49c85f2a1f7baa59f67565b5c8e45fa1421", func := "rondeau/rondeaulaw24.JudgeAllows", spec := "judgeAllows", inPlace := ["internal/abi.NoEscape", "internal/bytealg.MakeNoZero"], unfollowed := true, recurses := true, named := ["internal/strconv.uint64pow10", "math/bits.deBruijn32tab", "math/bits.deBruijn64tab"], apart := false, laid := [("math/bits.deBruijn32tab", laid_math_bits_deBruijn32tab), ("math/bits.deBruijn64tab", laid_math_bits_deBruijn64tab), ("internal/strconv.uint64pow10", laid_internal_strconv_uint64pow10)] }
def JudgeAllowsSaid : Prop := judgeAllowsRow.holds Tryz.pinned (OpenSpec.ofChange judgeAllowsSpec)

/-- ITS FALSE NEIGHBOUR: 'it returns false'. Refute it at one input. -/
def judgeAllowsWrong : ChangeSpec := { name := "judgeAllows", fn := fun _ => fun
  | [d1, d2, d3] => { results := [.lit (.bool false)], args := [d1, d2, d3] }
  | _ => none }
def JudgeAllowsWrongFalsely : Prop := judgeAllowsRow.holds Tryz.pinned (OpenSpec.ofChange judgeAllowsWrong)

/-- 'rondeaulaw24.JudgeStays': WHATEVER THE INPUT: true; the input reads as it did. -/
def judgeStaysSpec : ChangeSpec := { name := "judgeStays", fn := fun _ => fun
  | [d1, d2, d3] => { results := [.lit (.bool true)], args := [d1, d2, d3] }
  | _ => none }
def judgeStaysRow : OpenClaim := { program := "ytlhifcnjnmeknaagreatdoor", sum := "32d57e2d195f0403df41c8ccf682b49c85f2a1f7baa59f67565b5c8e45fa1421", func := "rondeau/rondeaulaw24.JudgeStays", spec := "judgeStays", inPlace := ["internal/abi.NoEscape", "internal/bytealg.MakeNoZero"], unfollowed := true, recurses := true, named := ["internal/strconv.uint64pow10", "math/bits.deBruijn32tab", "math/bits.deBruijn64tab"], apart := false, laid := [("math/bits.deBruijn32tab", laid_math_bits_deBruijn32tab), ("math/bits.deBruijn64tab", laid_math_bits_deBruijn64tab), ("internal/strconv.uint64pow10", laid_internal_strconv_uint64pow10)] }
def JudgeStaysSaid : Prop := judgeStaysRow.holds Tryz.pinned (OpenSpec.ofChange judgeStaysSpec)

/-- ITS FALSE NEIGHBOUR: 'it returns false'. Refute it at one input. -/
def judgeStaysWrong : ChangeSpec := { name := "judgeStays", fn := fun _ => fun
  | [d1, d2, d3] => { results := [.lit (.bool false)], args := [d1, d2, d3] }
  | _ => none }
def JudgeStaysWrongFalsely : Prop := judgeStaysRow.holds Tryz.pinned (OpenSpec.ofChange judgeStaysWrong)

/-- 'rondeaulaw24.JudgeSound': WHATEVER THE INPUT: true; the input reads as it did. -/
def judgeSoundSpec : ChangeSpec := { name := "judgeSound", fn := fun _ => fun
  | [d1, d2, d3] => { results := [.lit (.bool true)], args := [d1, d2, d3] }
  | _ => none }
def judgeSoundRow : OpenClaim := { program := "ytlhifcnjnmeknaagreatdoor", sum := "32d57e2d195f0403df41c8ccf682b49c85f2a1f7baa59f67565b5c8e45fa1421", func := "rondeau/rondeaulaw24.JudgeSound", spec := "judgeSound", inPlace := ["internal/abi.NoEscape", "internal/bytealg.MakeNoZero"], unfollowed := true, recurses := true, named := ["internal/strconv.uint64pow10", "math/bits.deBruijn32tab", "math/bits.deBruijn64tab"], apart := false, laid := [("math/bits.deBruijn32tab", laid_math_bits_deBruijn32tab), ("math/bits.deBruijn64tab", laid_math_bits_deBruijn64tab), ("internal/strconv.uint64pow10", laid_internal_strconv_uint64pow10)] }
def JudgeSoundSaid : Prop := judgeSoundRow.holds Tryz.pinned (OpenSpec.ofChange judgeSoundSpec)

/-- ITS FALSE NEIGHBOUR: 'it returns false'. Refute it at one input. -/
def judgeSoundWrong : ChangeSpec := { name := "judgeSound", fn := fun _ => fun
  | [d1, d2, d3] => { results := [.lit (.bool false)], args := [d1, d2, d3] }
  | _ => none }
def JudgeSoundWrongFalsely : Prop := judgeSoundRow.holds Tryz.pinned (OpenSpec.ofChange judgeSoundWrong)

/-- 'rondeaulaw24.JudgeComplete': WHATEVER THE INPUT: true; the input reads as it did. -/
def judgeCompleteSpec : ChangeSpec := { name := "judgeComplete", fn := fun _ => fun
  | [d1, d2] => { results := [.lit (.bool true)], args := [d1, d2] }
  | _ => none }
def judgeCompleteRow : OpenClaim := { program := "ytlhifcnjnmeknaagreatdoor", sum := "32d57e2d195f0403df41c8ccf682b49c85f2a1f7baa59f67565b5c8e45fa1421", func := "rondeau/rondeaulaw24.JudgeComplete", spec := "judgeComplete", inPlace := ["internal/abi.NoEscape", "internal/bytealg.MakeNoZero"], unfollowed := true, recurses := true, named := ["internal/strconv.uint64pow10", "math/bits.deBruijn32tab", "math/bits.deBruijn64tab"], apart := false, laid := [("math/bits.deBruijn32tab", laid_math_bits_deBruijn32tab), ("math/bits.deBruijn64tab", laid_math_bits_deBruijn64tab), ("internal/strconv.uint64pow10", laid_internal_strconv_uint64pow10)] }
def JudgeCompleteSaid : Prop := judgeCompleteRow.holds Tryz.pinned (OpenSpec.ofChange judgeCompleteSpec)

/-- ITS FALSE NEIGHBOUR: 'it returns false'. Refute it at one input. -/
def judgeCompleteWrong : ChangeSpec := { name := "judgeComplete", fn := fun _ => fun
  | [d1, d2] => { results := [.lit (.bool false)], args := [d1, d2] }
  | _ => none }
def JudgeCompleteWrongFalsely : Prop := judgeCompleteRow.holds Tryz.pinned (OpenSpec.ofChange judgeCompleteWrong)

/- THE SECOND FORM. 'bulk': how many values and letters a reading holds, each counted each time it is reached (what is shared counts as often as it is met; a slice's spare places count too). A statement '..UptoSaid' is the law's where the arguments, and the package variables that the reading takes, are together of bulk at most 1048576: NARROWER than '..Said'. Prove '..Said' where nothing that the law and all that it calls make is longer than what came in: it says more and counts as full. Else prove '..UptoSaid'. A law counts once. -/
mutual
def uptoBulk {H : Type} : DataW H → Nat
  | .lit (.string bytes) => bytes.length + 1
  | .lit _ => 1
  | .nil => 1
  | .ptr d => uptoBulk d + 1
  | .slice elems spare => uptoBulkAll elems + uptoBulkAll spare + 1
  | .agg parts => uptoBulkAll parts + 1
  | .iface _ d => uptoBulk d + 1
  | .map entries => uptoBulkEntries entries + 1
  | .held _ => 1
def uptoBulkAll {H : Type} : List (DataW H) → Nat
  | [] => 0
  | d :: r => uptoBulk d + uptoBulkAll r
def uptoBulkEntries {H : Type} : List (Lit × DataW H) → Nat
  | [] => 0
  | x :: r => uptoBulkEntry x + uptoBulkEntries r
def uptoBulkEntry {H : Type} : Lit × DataW H → Nat
  | (.string bytes, d) => bytes.length + uptoBulk d + 1
  | (_, d) => uptoBulk d + 1
 end
def uptoSmall : (H : Type) → List (DataW H) → Bool := fun _ ds => decide (uptoBulkAll ds ≤ 1048576)
def OpenSpec.upto (s : _root_.Go.ChangeSpec) : _root_.Go.OpenSpec := { _root_.Go.OpenSpec.ofChange s with cond := some uptoSmall }

/-- 'rondeaulaw24.JudgeFirst', WHERE WHAT IT READS IS OF BULK AT MOST 1048576: true; the input reads as it did. -/
def judgeFirstUptoRow : OpenClaim := { program := "ytlhifcnjnmeknaagreatdoor", sum := "32d57e2d195f0403df41c8ccf682b49c85f2a1f7baa59f67565b5c8e45fa1421", func := "rondeau/rondeaulaw24.JudgeFirst", spec := "judgeFirst", inPlace := ["internal/abi.NoEscape", "internal/bytealg.MakeNoZero"], unfollowed := true, recurses := true, named := ["internal/strconv.uint64pow10", "math/bits.deBruijn32tab", "math/bits.deBruijn64tab"], apart := false, laid := [("math/bits.deBruijn32tab", laid_math_bits_deBruijn32tab), ("math/bits.deBruijn64tab", laid_math_bits_deBruijn64tab), ("internal/strconv.uint64pow10", laid_internal_strconv_uint64pow10)], narrowed := true }
def JudgeFirstUptoSaid : Prop := judgeFirstUptoRow.holds Tryz.pinned (OpenSpec.upto judgeFirstSpec)

/-- 'rondeaulaw24.JudgeCan', WHERE WHAT IT READS IS OF BULK AT MOST 1048576: true; the input reads as it did. -/
def judgeCanUptoRow : OpenClaim := { program := "ytlhifcnjnmeknaagreatdoor", sum := "32d57e2d195f0403df41c8ccf682b49c85f2a1f7baa59f67565b5c8e45fa1421", func := "rondeau/rondeaulaw24.JudgeCan", spec := "judgeCan", inPlace := ["internal/abi.NoEscape", "internal/bytealg.MakeNoZero"], unfollowed := true, recurses := true, named := ["internal/strconv.uint64pow10", "math/bits.deBruijn32tab", "math/bits.deBruijn64tab"], apart := false, laid := [("math/bits.deBruijn32tab", laid_math_bits_deBruijn32tab), ("math/bits.deBruijn64tab", laid_math_bits_deBruijn64tab), ("internal/strconv.uint64pow10", laid_internal_strconv_uint64pow10)], narrowed := true }
def JudgeCanUptoSaid : Prop := judgeCanUptoRow.holds Tryz.pinned (OpenSpec.upto judgeCanSpec)

/-- 'rondeaulaw24.JudgeStuck', WHERE WHAT IT READS IS OF BULK AT MOST 1048576: true; the input reads as it did. -/
def judgeStuckUptoRow : OpenClaim := { program := "ytlhifcnjnmeknaagreatdoor", sum := "32d57e2d195f0403df41c8ccf682b49c85f2a1f7baa59f67565b5c8e45fa1421", func := "rondeau/rondeaulaw24.JudgeStuck", spec := "judgeStuck", inPlace := ["internal/abi.NoEscape", "internal/bytealg.MakeNoZero"], unfollowed := true, recurses := true, named := ["internal/strconv.uint64pow10", "math/bits.deBruijn32tab", "math/bits.deBruijn64tab"], apart := false, laid := [("math/bits.deBruijn32tab", laid_math_bits_deBruijn32tab), ("math/bits.deBruijn64tab", laid_math_bits_deBruijn64tab), ("internal/strconv.uint64pow10", laid_internal_strconv_uint64pow10)], narrowed := true }
def JudgeStuckUptoSaid : Prop := judgeStuckUptoRow.holds Tryz.pinned (OpenSpec.upto judgeStuckSpec)

/-- 'rondeaulaw24.JudgeWhy', WHERE WHAT IT READS IS OF BULK AT MOST 1048576: true; the input reads as it did. -/
def judgeWhyUptoRow : OpenClaim := { program := "ytlhifcnjnmeknaagreatdoor", sum := "32d57e2d195f0403df41c8ccf682b49c85f2a1f7baa59f67565b5c8e45fa1421", func := "rondeau/rondeaulaw24.JudgeWhy", spec := "judgeWhy", inPlace := ["internal/abi.NoEscape", "internal/bytealg.MakeNoZero"], unfollowed := true, recurses := true, named := ["internal/strconv.uint64pow10", "math/bits.deBruijn32tab", "math/bits.deBruijn64tab"], apart := false, laid := [("math/bits.deBruijn32tab", laid_math_bits_deBruijn32tab), ("math/bits.deBruijn64tab", laid_math_bits_deBruijn64tab), ("internal/strconv.uint64pow10", laid_internal_strconv_uint64pow10)], narrowed := true }
def JudgeWhyUptoSaid : Prop := judgeWhyUptoRow.holds Tryz.pinned (OpenSpec.upto judgeWhySpec)

/-- 'rondeaulaw24.JudgeAllows', WHERE WHAT IT READS IS OF BULK AT MOST 1048576: true; the input reads as it did. -/
def judgeAllowsUptoRow : OpenClaim := { program := "ytlhifcnjnmeknaagreatdoor", sum := "32d57e2d195f0403df41c8ccf682b49c85f2a1f7baa59f67565b5c8e45fa1421", func := "rondeau/rondeaulaw24.JudgeAllows", spec := "judgeAllows", inPlace := ["internal/abi.NoEscape", "internal/bytealg.MakeNoZero"], unfollowed := true, recurses := true, named := ["internal/strconv.uint64pow10", "math/bits.deBruijn32tab", "math/bits.deBruijn64tab"], apart := false, laid := [("math/bits.deBruijn32tab", laid_math_bits_deBruijn32tab), ("math/bits.deBruijn64tab", laid_math_bits_deBruijn64tab), ("internal/strconv.uint64pow10", laid_internal_strconv_uint64pow10)], narrowed := true }
def JudgeAllowsUptoSaid : Prop := judgeAllowsUptoRow.holds Tryz.pinned (OpenSpec.upto judgeAllowsSpec)

/-- 'rondeaulaw24.JudgeStays', WHERE WHAT IT READS IS OF BULK AT MOST 1048576: true; the input reads as it did. -/
def judgeStaysUptoRow : OpenClaim := { program := "ytlhifcnjnmeknaagreatdoor", sum := "32d57e2d195f0403df41c8ccf682b49c85f2a1f7baa59f67565b5c8e45fa1421", func := "rondeau/rondeaulaw24.JudgeStays", spec := "judgeStays", inPlace := ["internal/abi.NoEscape", "internal/bytealg.MakeNoZero"], unfollowed := true, recurses := true, named := ["internal/strconv.uint64pow10", "math/bits.deBruijn32tab", "math/bits.deBruijn64tab"], apart := false, laid := [("math/bits.deBruijn32tab", laid_math_bits_deBruijn32tab), ("math/bits.deBruijn64tab", laid_math_bits_deBruijn64tab), ("internal/strconv.uint64pow10", laid_internal_strconv_uint64pow10)], narrowed := true }
def JudgeStaysUptoSaid : Prop := judgeStaysUptoRow.holds Tryz.pinned (OpenSpec.upto judgeStaysSpec)

/-- 'rondeaulaw24.JudgeSound', WHERE WHAT IT READS IS OF BULK AT MOST 1048576: true; the input reads as it did. -/
def judgeSoundUptoRow : OpenClaim := { program := "ytlhifcnjnmeknaagreatdoor", sum := "32d57e2d195f0403df41c8ccf682b49c85f2a1f7baa59f67565b5c8e45fa1421", func := "rondeau/rondeaulaw24.JudgeSound", spec := "judgeSound", inPlace := ["internal/abi.NoEscape", "internal/bytealg.MakeNoZero"], unfollowed := true, recurses := true, named := ["internal/strconv.uint64pow10", "math/bits.deBruijn32tab", "math/bits.deBruijn64tab"], apart := false, laid := [("math/bits.deBruijn32tab", laid_math_bits_deBruijn32tab), ("math/bits.deBruijn64tab", laid_math_bits_deBruijn64tab), ("internal/strconv.uint64pow10", laid_internal_strconv_uint64pow10)], narrowed := true }
def JudgeSoundUptoSaid : Prop := judgeSoundUptoRow.holds Tryz.pinned (OpenSpec.upto judgeSoundSpec)

/-- 'rondeaulaw24.JudgeComplete', WHERE WHAT IT READS IS OF BULK AT MOST 1048576: true; the input reads as it did. -/
def judgeCompleteUptoRow : OpenClaim := { program := "ytlhifcnjnmeknaagreatdoor", sum := "32d57e2d195f0403df41c8ccf682b49c85f2a1f7baa59f67565b5c8e45fa1421", func := "rondeau/rondeaulaw24.JudgeComplete", spec := "judgeComplete", inPlace := ["internal/abi.NoEscape", "internal/bytealg.MakeNoZero"], unfollowed := true, recurses := true, named := ["internal/strconv.uint64pow10", "math/bits.deBruijn32tab", "math/bits.deBruijn64tab"], apart := false, laid := [("math/bits.deBruijn32tab", laid_math_bits_deBruijn32tab), ("math/bits.deBruijn64tab", laid_math_bits_deBruijn64tab), ("internal/strconv.uint64pow10", laid_internal_strconv_uint64pow10)], narrowed := true }
def JudgeCompleteUptoSaid : Prop := judgeCompleteUptoRow.holds Tryz.pinned (OpenSpec.upto judgeCompleteSpec)

end Rows
end Go.Proofs.YtlhifcnjnmeknaaGreatDoor
