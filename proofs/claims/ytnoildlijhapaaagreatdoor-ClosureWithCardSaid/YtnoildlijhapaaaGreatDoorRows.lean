/-
  NARROWER THAN 'FOR EVERY INPUT', by the rows' own cells (each row's printed sentence says how): ClosureReckons: laid · ClosureOffsets: laid · ClosureSelects: laid · ClosureCommon: laid · ClosureHelly: laid · ClosureLargest: laid · ClosureWider: laid · ClosureTruth: laid · ClosureResiduals: laid · ClosureWith: laid · WholeClosures: laid · WholeMinimum: laid.
  DERIVED. THE GIVEN ROWS OF THIS SEAT. 12 by the template 'for every input the law returns true; each argument reads behind the call as it read before'; 0 by the template 'total and deterministic' (their statements: YtnoildlijhapaaaGreatDoorTotals.lean).
  GIVEN WITH THE SEED: the statements are not yours to turn. If you find one false, say at which input.
  Laid BY PROGRAM, IN A SANDBOX (cutbox-rows.mjs): the forced cells as the released guide's own fill.sh prints them over the translation 3f0221ca5ad0d277… (all of the seat's roots in one cut). By AI agents, Wed Nov 11 2026. No macro, syntax, notation, axiom, sorry.
-/
import Derived.Test.YtnoildlijhapaaaGreatDoorChecked
import GoSem.Claim
import GoSem.ClaimJoined
import GoSem.ClaimMapViews
import Derived.JoinedTies
import Derived.KernelRfl
namespace Go.Proofs.YtnoildlijhapaaaGreatDoor
/- THE CELL 'sum', in the pinned program and in every row, IS THE sha256 OF THE DUMP (.gsa) THAT YtnoildlijhapaaaGreatDoorProg.lean LOADS. Nothing in Lean hashes anything: it is a label: what it is worth is what the hold of that sum in a sandbox is worth. -/
noncomputable def Tryz.pinned : Pinned := { name := "ytnoildlijhapaaagreatdoor", sum := "3f0221ca5ad0d277133f8707bdf115018a78fab20b1bf916a80a56fd5b1cda68", checked := Tryz.checked }
namespace Rows
def none {H : Type} : Left H := { results := [], args := [] }

/- WHAT THE LISTED PACKAGE-LEVEL VARIABLES READ AS WHEN THE CALL BEGINS. Each datum BY PROGRAM (the guide's laid-datum.mjs) off the statement by which the dump's own 'gosem.cut.vars' lays the variable. In a bare row this is a premise. The card (YtnoildlijhapaaaGreatDoorCards.lean) ties it to the program's text. -/
def laid_math_bits_deBruijn32tab {H : Type} : DataW H := .agg [.lit (.int .u8 0), .lit (.int .u8 1), .lit (.int .u8 28), .lit (.int .u8 2), .lit (.int .u8 29), .lit (.int .u8 14), .lit (.int .u8 24), .lit (.int .u8 3), .lit (.int .u8 30), .lit (.int .u8 22), .lit (.int .u8 20), .lit (.int .u8 15), .lit (.int .u8 25), .lit (.int .u8 17), .lit (.int .u8 4), .lit (.int .u8 8), .lit (.int .u8 31), .lit (.int .u8 27), .lit (.int .u8 13), .lit (.int .u8 23), .lit (.int .u8 21), .lit (.int .u8 19), .lit (.int .u8 16), .lit (.int .u8 7), .lit (.int .u8 26), .lit (.int .u8 12), .lit (.int .u8 18), .lit (.int .u8 6), .lit (.int .u8 11), .lit (.int .u8 5), .lit (.int .u8 10), .lit (.int .u8 9)]
def laid_math_bits_deBruijn64tab {H : Type} : DataW H := .agg [.lit (.int .u8 0), .lit (.int .u8 1), .lit (.int .u8 56), .lit (.int .u8 2), .lit (.int .u8 57), .lit (.int .u8 49), .lit (.int .u8 28), .lit (.int .u8 3), .lit (.int .u8 61), .lit (.int .u8 58), .lit (.int .u8 42), .lit (.int .u8 50), .lit (.int .u8 38), .lit (.int .u8 29), .lit (.int .u8 17), .lit (.int .u8 4), .lit (.int .u8 62), .lit (.int .u8 47), .lit (.int .u8 59), .lit (.int .u8 36), .lit (.int .u8 45), .lit (.int .u8 43), .lit (.int .u8 51), .lit (.int .u8 22), .lit (.int .u8 53), .lit (.int .u8 39), .lit (.int .u8 33), .lit (.int .u8 30), .lit (.int .u8 24), .lit (.int .u8 18), .lit (.int .u8 12), .lit (.int .u8 5), .lit (.int .u8 63), .lit (.int .u8 55), .lit (.int .u8 48), .lit (.int .u8 27), .lit (.int .u8 60), .lit (.int .u8 41), .lit (.int .u8 37), .lit (.int .u8 16), .lit (.int .u8 46), .lit (.int .u8 35), .lit (.int .u8 44), .lit (.int .u8 21), .lit (.int .u8 52), .lit (.int .u8 32), .lit (.int .u8 23), .lit (.int .u8 11), .lit (.int .u8 54), .lit (.int .u8 26), .lit (.int .u8 40), .lit (.int .u8 15), .lit (.int .u8 34), .lit (.int .u8 20), .lit (.int .u8 31), .lit (.int .u8 10), .lit (.int .u8 25), .lit (.int .u8 14), .lit (.int .u8 19), .lit (.int .u8 9), .lit (.int .u8 13), .lit (.int .u8 8), .lit (.int .u8 7), .lit (.int .u8 6)]
def laid_internal_strconv_uint64pow10 {H : Type} : DataW H := .agg [.lit (.int .u64 1), .lit (.int .u64 10), .lit (.int .u64 100), .lit (.int .u64 1000), .lit (.int .u64 10000), .lit (.int .u64 100000), .lit (.int .u64 1000000), .lit (.int .u64 10000000), .lit (.int .u64 100000000), .lit (.int .u64 1000000000), .lit (.int .u64 10000000000), .lit (.int .u64 100000000000), .lit (.int .u64 1000000000000), .lit (.int .u64 10000000000000), .lit (.int .u64 100000000000000), .lit (.int .u64 1000000000000000), .lit (.int .u64 10000000000000000), .lit (.int .u64 100000000000000000), .lit (.int .u64 1000000000000000000), .lit (.int .u64 10000000000000000000)]

/-- 'wayfinderlaw30.ClosureReckons': WHATEVER THE INPUT: true; the input reads as it did. -/
def closureReckonsSpec : ChangeSpec := { name := "closureReckons", fn := fun _ => fun
  | [d] => { results := [.lit (.bool true)], args := [d] }
  | _ => none }
def closureReckonsRow : OpenClaim := { program := "ytnoildlijhapaaagreatdoor", sum := "3f0221ca5ad0d277133f8707bdf115018a78fab20b1bf916a80a56fd5b1cda68", func := "wayfinder/wayfinderlaw30.ClosureReckons", spec := "closureReckons", inPlace := ["internal/abi.NoEscape", "internal/bytealg.MakeNoZero"], unfollowed := true, recurses := true, named := ["math/bits.overflowError", "internal/strconv.uint64pow10", "math/bits.deBruijn32tab", "math/bits.deBruijn64tab"], apart := false, laid := [("math/bits.deBruijn32tab", laid_math_bits_deBruijn32tab), ("math/bits.deBruijn64tab", laid_math_bits_deBruijn64tab), ("internal/strconv.uint64pow10", laid_internal_strconv_uint64pow10)] }
def ClosureReckonsSaid : Prop := closureReckonsRow.holds Tryz.pinned (OpenSpec.ofChange closureReckonsSpec)

/-- ITS FALSE NEIGHBOUR: 'it returns false'. Refute it at one input. -/
def closureReckonsWrong : ChangeSpec := { name := "closureReckons", fn := fun _ => fun
  | [d] => { results := [.lit (.bool false)], args := [d] }
  | _ => none }
def ClosureReckonsWrongFalsely : Prop := closureReckonsRow.holds Tryz.pinned (OpenSpec.ofChange closureReckonsWrong)

/-- 'wayfinderlaw30.ClosureOffsets': WHATEVER THE INPUT: true; the input reads as it did. -/
def closureOffsetsSpec : ChangeSpec := { name := "closureOffsets", fn := fun _ => fun
  | [d1, d2, d3] => { results := [.lit (.bool true)], args := [d1, d2, d3] }
  | _ => none }
def closureOffsetsRow : OpenClaim := { program := "ytnoildlijhapaaagreatdoor", sum := "3f0221ca5ad0d277133f8707bdf115018a78fab20b1bf916a80a56fd5b1cda68", func := "wayfinder/wayfinderlaw30.ClosureOffsets", spec := "closureOffsets", inPlace := ["internal/abi.NoEscape", "internal/bytealg.MakeNoZero"], unfollowed := true, recurses := true, named := ["math/bits.overflowError", "internal/strconv.uint64pow10", "math/bits.deBruijn32tab", "math/bits.deBruijn64tab"], apart := false, laid := [("math/bits.deBruijn32tab", laid_math_bits_deBruijn32tab), ("math/bits.deBruijn64tab", laid_math_bits_deBruijn64tab), ("internal/strconv.uint64pow10", laid_internal_strconv_uint64pow10)] }
def ClosureOffsetsSaid : Prop := closureOffsetsRow.holds Tryz.pinned (OpenSpec.ofChange closureOffsetsSpec)

/-- ITS FALSE NEIGHBOUR: 'it returns false'. Refute it at one input. -/
def closureOffsetsWrong : ChangeSpec := { name := "closureOffsets", fn := fun _ => fun
  | [d1, d2, d3] => { results := [.lit (.bool false)], args := [d1, d2, d3] }
  | _ => none }
def ClosureOffsetsWrongFalsely : Prop := closureOffsetsRow.holds Tryz.pinned (OpenSpec.ofChange closureOffsetsWrong)

/-- 'wayfinderlaw30.ClosureSelects': WHATEVER THE INPUT: true; the input reads as it did. -/
def closureSelectsSpec : ChangeSpec := { name := "closureSelects", fn := fun _ => fun
  | [d1, d2, d3] => { results := [.lit (.bool true)], args := [d1, d2, d3] }
  | _ => none }
def closureSelectsRow : OpenClaim := { program := "ytnoildlijhapaaagreatdoor", sum := "3f0221ca5ad0d277133f8707bdf115018a78fab20b1bf916a80a56fd5b1cda68", func := "wayfinder/wayfinderlaw30.ClosureSelects", spec := "closureSelects", inPlace := ["internal/abi.NoEscape", "internal/bytealg.MakeNoZero"], unfollowed := true, recurses := true, named := ["math/bits.overflowError", "internal/strconv.uint64pow10", "math/bits.deBruijn32tab", "math/bits.deBruijn64tab"], apart := false, laid := [("math/bits.deBruijn32tab", laid_math_bits_deBruijn32tab), ("math/bits.deBruijn64tab", laid_math_bits_deBruijn64tab), ("internal/strconv.uint64pow10", laid_internal_strconv_uint64pow10)] }
def ClosureSelectsSaid : Prop := closureSelectsRow.holds Tryz.pinned (OpenSpec.ofChange closureSelectsSpec)

/-- ITS FALSE NEIGHBOUR: 'it returns false'. Refute it at one input. -/
def closureSelectsWrong : ChangeSpec := { name := "closureSelects", fn := fun _ => fun
  | [d1, d2, d3] => { results := [.lit (.bool false)], args := [d1, d2, d3] }
  | _ => none }
def ClosureSelectsWrongFalsely : Prop := closureSelectsRow.holds Tryz.pinned (OpenSpec.ofChange closureSelectsWrong)

/-- 'wayfinderlaw30.ClosureCommon': WHATEVER THE INPUT: true; the input reads as it did. -/
def closureCommonSpec : ChangeSpec := { name := "closureCommon", fn := fun _ => fun
  | [d1, d2] => { results := [.lit (.bool true)], args := [d1, d2] }
  | _ => none }
def closureCommonRow : OpenClaim := { program := "ytnoildlijhapaaagreatdoor", sum := "3f0221ca5ad0d277133f8707bdf115018a78fab20b1bf916a80a56fd5b1cda68", func := "wayfinder/wayfinderlaw30.ClosureCommon", spec := "closureCommon", inPlace := ["internal/abi.NoEscape", "internal/bytealg.MakeNoZero"], unfollowed := true, recurses := true, named := ["math/bits.overflowError", "internal/strconv.uint64pow10", "math/bits.deBruijn32tab", "math/bits.deBruijn64tab"], apart := false, laid := [("math/bits.deBruijn32tab", laid_math_bits_deBruijn32tab), ("math/bits.deBruijn64tab", laid_math_bits_deBruijn64tab), ("internal/strconv.uint64pow10", laid_internal_strconv_uint64pow10)] }
def ClosureCommonSaid : Prop := closureCommonRow.holds Tryz.pinned (OpenSpec.ofChange closureCommonSpec)

/-- ITS FALSE NEIGHBOUR: 'it returns false'. Refute it at one input. -/
def closureCommonWrong : ChangeSpec := { name := "closureCommon", fn := fun _ => fun
  | [d1, d2] => { results := [.lit (.bool false)], args := [d1, d2] }
  | _ => none }
def ClosureCommonWrongFalsely : Prop := closureCommonRow.holds Tryz.pinned (OpenSpec.ofChange closureCommonWrong)

/-- 'wayfinderlaw30.ClosureHelly': WHATEVER THE INPUT: true; the input reads as it did. -/
def closureHellySpec : ChangeSpec := { name := "closureHelly", fn := fun _ => fun
  | [d1, d2] => { results := [.lit (.bool true)], args := [d1, d2] }
  | _ => none }
def closureHellyRow : OpenClaim := { program := "ytnoildlijhapaaagreatdoor", sum := "3f0221ca5ad0d277133f8707bdf115018a78fab20b1bf916a80a56fd5b1cda68", func := "wayfinder/wayfinderlaw30.ClosureHelly", spec := "closureHelly", inPlace := ["internal/abi.NoEscape", "internal/bytealg.MakeNoZero"], unfollowed := true, recurses := true, named := ["math/bits.overflowError", "internal/strconv.uint64pow10", "math/bits.deBruijn32tab", "math/bits.deBruijn64tab"], apart := false, laid := [("math/bits.deBruijn32tab", laid_math_bits_deBruijn32tab), ("math/bits.deBruijn64tab", laid_math_bits_deBruijn64tab), ("internal/strconv.uint64pow10", laid_internal_strconv_uint64pow10)] }
def ClosureHellySaid : Prop := closureHellyRow.holds Tryz.pinned (OpenSpec.ofChange closureHellySpec)

/-- ITS FALSE NEIGHBOUR: 'it returns false'. Refute it at one input. -/
def closureHellyWrong : ChangeSpec := { name := "closureHelly", fn := fun _ => fun
  | [d1, d2] => { results := [.lit (.bool false)], args := [d1, d2] }
  | _ => none }
def ClosureHellyWrongFalsely : Prop := closureHellyRow.holds Tryz.pinned (OpenSpec.ofChange closureHellyWrong)

/-- 'wayfinderlaw30.ClosureLargest': WHATEVER THE INPUT: true; the input reads as it did. -/
def closureLargestSpec : ChangeSpec := { name := "closureLargest", fn := fun _ => fun
  | [d1, d2, d3] => { results := [.lit (.bool true)], args := [d1, d2, d3] }
  | _ => none }
def closureLargestRow : OpenClaim := { program := "ytnoildlijhapaaagreatdoor", sum := "3f0221ca5ad0d277133f8707bdf115018a78fab20b1bf916a80a56fd5b1cda68", func := "wayfinder/wayfinderlaw30.ClosureLargest", spec := "closureLargest", inPlace := ["internal/abi.NoEscape", "internal/bytealg.MakeNoZero"], unfollowed := true, recurses := true, named := ["math/bits.overflowError", "internal/strconv.uint64pow10", "math/bits.deBruijn32tab", "math/bits.deBruijn64tab"], apart := false, laid := [("math/bits.deBruijn32tab", laid_math_bits_deBruijn32tab), ("math/bits.deBruijn64tab", laid_math_bits_deBruijn64tab), ("internal/strconv.uint64pow10", laid_internal_strconv_uint64pow10)] }
def ClosureLargestSaid : Prop := closureLargestRow.holds Tryz.pinned (OpenSpec.ofChange closureLargestSpec)

/-- ITS FALSE NEIGHBOUR: 'it returns false'. Refute it at one input. -/
def closureLargestWrong : ChangeSpec := { name := "closureLargest", fn := fun _ => fun
  | [d1, d2, d3] => { results := [.lit (.bool false)], args := [d1, d2, d3] }
  | _ => none }
def ClosureLargestWrongFalsely : Prop := closureLargestRow.holds Tryz.pinned (OpenSpec.ofChange closureLargestWrong)

/-- 'wayfinderlaw30.ClosureWider': WHATEVER THE INPUT: true; the input reads as it did. -/
def closureWiderSpec : ChangeSpec := { name := "closureWider", fn := fun _ => fun
  | [d1, d2, d3] => { results := [.lit (.bool true)], args := [d1, d2, d3] }
  | _ => none }
def closureWiderRow : OpenClaim := { program := "ytnoildlijhapaaagreatdoor", sum := "3f0221ca5ad0d277133f8707bdf115018a78fab20b1bf916a80a56fd5b1cda68", func := "wayfinder/wayfinderlaw30.ClosureWider", spec := "closureWider", inPlace := ["internal/abi.NoEscape", "internal/bytealg.MakeNoZero"], unfollowed := true, recurses := true, named := ["math/bits.overflowError", "internal/strconv.uint64pow10", "math/bits.deBruijn32tab", "math/bits.deBruijn64tab"], apart := false, laid := [("math/bits.deBruijn32tab", laid_math_bits_deBruijn32tab), ("math/bits.deBruijn64tab", laid_math_bits_deBruijn64tab), ("internal/strconv.uint64pow10", laid_internal_strconv_uint64pow10)] }
def ClosureWiderSaid : Prop := closureWiderRow.holds Tryz.pinned (OpenSpec.ofChange closureWiderSpec)

/-- ITS FALSE NEIGHBOUR: 'it returns false'. Refute it at one input. -/
def closureWiderWrong : ChangeSpec := { name := "closureWider", fn := fun _ => fun
  | [d1, d2, d3] => { results := [.lit (.bool false)], args := [d1, d2, d3] }
  | _ => none }
def ClosureWiderWrongFalsely : Prop := closureWiderRow.holds Tryz.pinned (OpenSpec.ofChange closureWiderWrong)

/-- 'wayfinderlaw30.ClosureTruth': WHATEVER THE INPUT: true; the input reads as it did. -/
def closureTruthSpec : ChangeSpec := { name := "closureTruth", fn := fun _ => fun
  | [d1, d2, d3] => { results := [.lit (.bool true)], args := [d1, d2, d3] }
  | _ => none }
def closureTruthRow : OpenClaim := { program := "ytnoildlijhapaaagreatdoor", sum := "3f0221ca5ad0d277133f8707bdf115018a78fab20b1bf916a80a56fd5b1cda68", func := "wayfinder/wayfinderlaw30.ClosureTruth", spec := "closureTruth", inPlace := ["internal/abi.NoEscape", "internal/bytealg.MakeNoZero"], unfollowed := true, recurses := true, named := ["math/bits.overflowError", "internal/strconv.uint64pow10", "math/bits.deBruijn32tab", "math/bits.deBruijn64tab"], apart := false, laid := [("math/bits.deBruijn32tab", laid_math_bits_deBruijn32tab), ("math/bits.deBruijn64tab", laid_math_bits_deBruijn64tab), ("internal/strconv.uint64pow10", laid_internal_strconv_uint64pow10)] }
def ClosureTruthSaid : Prop := closureTruthRow.holds Tryz.pinned (OpenSpec.ofChange closureTruthSpec)

/-- ITS FALSE NEIGHBOUR: 'it returns false'. Refute it at one input. -/
def closureTruthWrong : ChangeSpec := { name := "closureTruth", fn := fun _ => fun
  | [d1, d2, d3] => { results := [.lit (.bool false)], args := [d1, d2, d3] }
  | _ => none }
def ClosureTruthWrongFalsely : Prop := closureTruthRow.holds Tryz.pinned (OpenSpec.ofChange closureTruthWrong)

/-- 'wayfinderlaw30.ClosureResiduals': WHATEVER THE INPUT: true; the input reads as it did. -/
def closureResidualsSpec : ChangeSpec := { name := "closureResiduals", fn := fun _ => fun
  | [d] => { results := [.lit (.bool true)], args := [d] }
  | _ => none }
def closureResidualsRow : OpenClaim := { program := "ytnoildlijhapaaagreatdoor", sum := "3f0221ca5ad0d277133f8707bdf115018a78fab20b1bf916a80a56fd5b1cda68", func := "wayfinder/wayfinderlaw30.ClosureResiduals", spec := "closureResiduals", inPlace := ["internal/abi.NoEscape", "internal/bytealg.MakeNoZero"], unfollowed := true, recurses := true, named := ["math/bits.overflowError", "internal/strconv.uint64pow10", "math/bits.deBruijn32tab", "math/bits.deBruijn64tab"], apart := false, laid := [("math/bits.deBruijn32tab", laid_math_bits_deBruijn32tab), ("math/bits.deBruijn64tab", laid_math_bits_deBruijn64tab), ("internal/strconv.uint64pow10", laid_internal_strconv_uint64pow10)] }
def ClosureResidualsSaid : Prop := closureResidualsRow.holds Tryz.pinned (OpenSpec.ofChange closureResidualsSpec)

/-- ITS FALSE NEIGHBOUR: 'it returns false'. Refute it at one input. -/
def closureResidualsWrong : ChangeSpec := { name := "closureResiduals", fn := fun _ => fun
  | [d] => { results := [.lit (.bool false)], args := [d] }
  | _ => none }
def ClosureResidualsWrongFalsely : Prop := closureResidualsRow.holds Tryz.pinned (OpenSpec.ofChange closureResidualsWrong)

/-- 'wayfinderlaw30.ClosureWith': WHATEVER THE INPUT: true; the input reads as it did. -/
def closureWithSpec : ChangeSpec := { name := "closureWith", fn := fun _ => fun
  | [d1, d2, d3] => { results := [.lit (.bool true)], args := [d1, d2, d3] }
  | _ => none }
def closureWithRow : OpenClaim := { program := "ytnoildlijhapaaagreatdoor", sum := "3f0221ca5ad0d277133f8707bdf115018a78fab20b1bf916a80a56fd5b1cda68", func := "wayfinder/wayfinderlaw30.ClosureWith", spec := "closureWith", inPlace := ["internal/abi.NoEscape", "internal/bytealg.MakeNoZero"], unfollowed := true, recurses := true, named := ["math/bits.overflowError", "internal/strconv.uint64pow10", "math/bits.deBruijn32tab", "math/bits.deBruijn64tab"], apart := false, laid := [("math/bits.deBruijn32tab", laid_math_bits_deBruijn32tab), ("math/bits.deBruijn64tab", laid_math_bits_deBruijn64tab), ("internal/strconv.uint64pow10", laid_internal_strconv_uint64pow10)] }
def ClosureWithSaid : Prop := closureWithRow.holds Tryz.pinned (OpenSpec.ofChange closureWithSpec)

/-- ITS FALSE NEIGHBOUR: 'it returns false'. Refute it at one input. -/
def closureWithWrong : ChangeSpec := { name := "closureWith", fn := fun _ => fun
  | [d1, d2, d3] => { results := [.lit (.bool false)], args := [d1, d2, d3] }
  | _ => none }
def ClosureWithWrongFalsely : Prop := closureWithRow.holds Tryz.pinned (OpenSpec.ofChange closureWithWrong)

/-- 'wayfindertop.WholeClosures': WHATEVER THE INPUT: true; the input reads as it did. -/
def wholeClosuresSpec : ChangeSpec := { name := "wholeClosures", fn := fun _ => fun
  | [d1, d2, d3] => { results := [.lit (.bool true)], args := [d1, d2, d3] }
  | _ => none }
def wholeClosuresRow : OpenClaim := { program := "ytnoildlijhapaaagreatdoor", sum := "3f0221ca5ad0d277133f8707bdf115018a78fab20b1bf916a80a56fd5b1cda68", func := "wayfinder/wayfindertop.WholeClosures", spec := "wholeClosures", inPlace := ["internal/abi.NoEscape", "internal/bytealg.MakeNoZero"], unfollowed := true, recurses := true, named := ["math/bits.overflowError", "internal/strconv.uint64pow10", "math/bits.deBruijn32tab", "math/bits.deBruijn64tab"], apart := false, laid := [("math/bits.deBruijn32tab", laid_math_bits_deBruijn32tab), ("math/bits.deBruijn64tab", laid_math_bits_deBruijn64tab), ("internal/strconv.uint64pow10", laid_internal_strconv_uint64pow10)] }
def WholeClosuresSaid : Prop := wholeClosuresRow.holds Tryz.pinned (OpenSpec.ofChange wholeClosuresSpec)

/-- ITS FALSE NEIGHBOUR: 'it returns false'. Refute it at one input. -/
def wholeClosuresWrong : ChangeSpec := { name := "wholeClosures", fn := fun _ => fun
  | [d1, d2, d3] => { results := [.lit (.bool false)], args := [d1, d2, d3] }
  | _ => none }
def WholeClosuresWrongFalsely : Prop := wholeClosuresRow.holds Tryz.pinned (OpenSpec.ofChange wholeClosuresWrong)

/-- 'wayfindertop.WholeMinimum': WHATEVER THE INPUT: true; the input reads as it did. -/
def wholeMinimumSpec : ChangeSpec := { name := "wholeMinimum", fn := fun _ => fun
  | [d1, d2, d3] => { results := [.lit (.bool true)], args := [d1, d2, d3] }
  | _ => none }
def wholeMinimumRow : OpenClaim := { program := "ytnoildlijhapaaagreatdoor", sum := "3f0221ca5ad0d277133f8707bdf115018a78fab20b1bf916a80a56fd5b1cda68", func := "wayfinder/wayfindertop.WholeMinimum", spec := "wholeMinimum", inPlace := ["internal/abi.NoEscape", "internal/bytealg.MakeNoZero"], unfollowed := true, recurses := true, named := ["math/bits.overflowError", "internal/strconv.uint64pow10", "math/bits.deBruijn32tab", "math/bits.deBruijn64tab"], apart := false, laid := [("math/bits.deBruijn32tab", laid_math_bits_deBruijn32tab), ("math/bits.deBruijn64tab", laid_math_bits_deBruijn64tab), ("internal/strconv.uint64pow10", laid_internal_strconv_uint64pow10)] }
def WholeMinimumSaid : Prop := wholeMinimumRow.holds Tryz.pinned (OpenSpec.ofChange wholeMinimumSpec)

/-- ITS FALSE NEIGHBOUR: 'it returns false'. Refute it at one input. -/
def wholeMinimumWrong : ChangeSpec := { name := "wholeMinimum", fn := fun _ => fun
  | [d1, d2, d3] => { results := [.lit (.bool false)], args := [d1, d2, d3] }
  | _ => none }
def WholeMinimumWrongFalsely : Prop := wholeMinimumRow.holds Tryz.pinned (OpenSpec.ofChange wholeMinimumWrong)

/- THE SECOND FORM. 'bulk': how many values and letters a reading holds, each counted each time it is reached (what is shared counts as often as it is met; a slice's spare places count too). A statement '..UptoSaid' is the law's where the arguments, and the package variables that the reading takes, are together of bulk at most 1048576: NARROWER than '..Said'. Prove '..Said' where nothing that the law and all that it calls make is longer than what came in: it says more and counts as full. Else prove '..UptoSaid'. A law counts once. -/
mutual
def uptoBulk {H : Type} : DataW H → Nat
  | .lit (.string bytes) => bytes.length + 1
  | .lit _ => 1
  | .nil => 1
  | .ptr d => uptoBulk d + 1
  | .slice elems spare => uptoBulkAll elems + uptoBulkAll spare + 1
  | .agg parts => uptoBulkAll parts + 1
  | .iface _ d => uptoBulk d + 1
  | .map entries => uptoBulkEntries entries + 1
  | .held _ => 1
def uptoBulkAll {H : Type} : List (DataW H) → Nat
  | [] => 0
  | d :: r => uptoBulk d + uptoBulkAll r
def uptoBulkEntries {H : Type} : List (Lit × DataW H) → Nat
  | [] => 0
  | x :: r => uptoBulkEntry x + uptoBulkEntries r
def uptoBulkEntry {H : Type} : Lit × DataW H → Nat
  | (.string bytes, d) => bytes.length + uptoBulk d + 1
  | (_, d) => uptoBulk d + 1
 end
def uptoSmall : (H : Type) → List (DataW H) → Bool := fun _ ds => decide (uptoBulkAll ds ≤ 1048576)
def OpenSpec.upto (s : _root_.Go.ChangeSpec) : _root_.Go.OpenSpec := { _root_.Go.OpenSpec.ofChange s with cond := some uptoSmall }

/-- 'wayfinderlaw30.ClosureReckons', WHERE WHAT IT READS IS OF BULK AT MOST 1048576: true; the input reads as it did. -/
def closureReckonsUptoRow : OpenClaim := { program := "ytnoildlijhapaaagreatdoor", sum := "3f0221ca5ad0d277133f8707bdf115018a78fab20b1bf916a80a56fd5b1cda68", func := "wayfinder/wayfinderlaw30.ClosureReckons", spec := "closureReckons", inPlace := ["internal/abi.NoEscape", "internal/bytealg.MakeNoZero"], unfollowed := true, recurses := true, named := ["math/bits.overflowError", "internal/strconv.uint64pow10", "math/bits.deBruijn32tab", "math/bits.deBruijn64tab"], apart := false, laid := [("math/bits.deBruijn32tab", laid_math_bits_deBruijn32tab), ("math/bits.deBruijn64tab", laid_math_bits_deBruijn64tab), ("internal/strconv.uint64pow10", laid_internal_strconv_uint64pow10)], narrowed := true }
def ClosureReckonsUptoSaid : Prop := closureReckonsUptoRow.holds Tryz.pinned (OpenSpec.upto closureReckonsSpec)

/-- 'wayfinderlaw30.ClosureOffsets', WHERE WHAT IT READS IS OF BULK AT MOST 1048576: true; the input reads as it did. -/
def closureOffsetsUptoRow : OpenClaim := { program := "ytnoildlijhapaaagreatdoor", sum := "3f0221ca5ad0d277133f8707bdf115018a78fab20b1bf916a80a56fd5b1cda68", func := "wayfinder/wayfinderlaw30.ClosureOffsets", spec := "closureOffsets", inPlace := ["internal/abi.NoEscape", "internal/bytealg.MakeNoZero"], unfollowed := true, recurses := true, named := ["math/bits.overflowError", "internal/strconv.uint64pow10", "math/bits.deBruijn32tab", "math/bits.deBruijn64tab"], apart := false, laid := [("math/bits.deBruijn32tab", laid_math_bits_deBruijn32tab), ("math/bits.deBruijn64tab", laid_math_bits_deBruijn64tab), ("internal/strconv.uint64pow10", laid_internal_strconv_uint64pow10)], narrowed := true }
def ClosureOffsetsUptoSaid : Prop := closureOffsetsUptoRow.holds Tryz.pinned (OpenSpec.upto closureOffsetsSpec)

/-- 'wayfinderlaw30.ClosureSelects', WHERE WHAT IT READS IS OF BULK AT MOST 1048576: true; the input reads as it did. -/
def closureSelectsUptoRow : OpenClaim := { program := "ytnoildlijhapaaagreatdoor", sum := "3f0221ca5ad0d277133f8707bdf115018a78fab20b1bf916a80a56fd5b1cda68", func := "wayfinder/wayfinderlaw30.ClosureSelects", spec := "closureSelects", inPlace := ["internal/abi.NoEscape", "internal/bytealg.MakeNoZero"], unfollowed := true, recurses := true, named := ["math/bits.overflowError", "internal/strconv.uint64pow10", "math/bits.deBruijn32tab", "math/bits.deBruijn64tab"], apart := false, laid := [("math/bits.deBruijn32tab", laid_math_bits_deBruijn32tab), ("math/bits.deBruijn64tab", laid_math_bits_deBruijn64tab), ("internal/strconv.uint64pow10", laid_internal_strconv_uint64pow10)], narrowed := true }
def ClosureSelectsUptoSaid : Prop := closureSelectsUptoRow.holds Tryz.pinned (OpenSpec.upto closureSelectsSpec)

/-- 'wayfinderlaw30.ClosureCommon', WHERE WHAT IT READS IS OF BULK AT MOST 1048576: true; the input reads as it did. -/
def closureCommonUptoRow : OpenClaim := { program := "ytnoildlijhapaaagreatdoor", sum := "3f0221ca5ad0d277133f8707bdf115018a78fab20b1bf916a80a56fd5b1cda68", func := "wayfinder/wayfinderlaw30.ClosureCommon", spec := "closureCommon", inPlace := ["internal/abi.NoEscape", "internal/bytealg.MakeNoZero"], unfollowed := true, recurses := true, named := ["math/bits.overflowError", "internal/strconv.uint64pow10", "math/bits.deBruijn32tab", "math/bits.deBruijn64tab"], apart := false, laid := [("math/bits.deBruijn32tab", laid_math_bits_deBruijn32tab), ("math/bits.deBruijn64tab", laid_math_bits_deBruijn64tab), ("internal/strconv.uint64pow10", laid_internal_strconv_uint64pow10)], narrowed := true }
def ClosureCommonUptoSaid : Prop := closureCommonUptoRow.holds Tryz.pinned (OpenSpec.upto closureCommonSpec)

/-- 'wayfinderlaw30.ClosureHelly', WHERE WHAT IT READS IS OF BULK AT MOST 1048576: true; the input reads as it did. -/
def closureHellyUptoRow : OpenClaim := { program := "ytnoildlijhapaaagreatdoor", sum := "3f0221ca5ad0d277133f8707bdf115018a78fab20b1bf916a80a56fd5b1cda68", func := "wayfinder/wayfinderlaw30.ClosureHelly", spec := "closureHelly", inPlace := ["internal/abi.NoEscape", "internal/bytealg.MakeNoZero"], unfollowed := true, recurses := true, named := ["math/bits.overflowError", "internal/strconv.uint64pow10", "math/bits.deBruijn32tab", "math/bits.deBruijn64tab"], apart := false, laid := [("math/bits.deBruijn32tab", laid_math_bits_deBruijn32tab), ("math/bits.deBruijn64tab", laid_math_bits_deBruijn64tab), ("internal/strconv.uint64pow10", laid_internal_strconv_uint64pow10)], narrowed := true }
def ClosureHellyUptoSaid : Prop := closureHellyUptoRow.holds Tryz.pinned (OpenSpec.upto closureHellySpec)

/-- 'wayfinderlaw30.ClosureLargest', WHERE WHAT IT READS IS OF BULK AT MOST 1048576: true; the input reads as it did. -/
def closureLargestUptoRow : OpenClaim := { program := "ytnoildlijhapaaagreatdoor", sum := "3f0221ca5ad0d277133f8707bdf115018a78fab20b1bf916a80a56fd5b1cda68", func := "wayfinder/wayfinderlaw30.ClosureLargest", spec := "closureLargest", inPlace := ["internal/abi.NoEscape", "internal/bytealg.MakeNoZero"], unfollowed := true, recurses := true, named := ["math/bits.overflowError", "internal/strconv.uint64pow10", "math/bits.deBruijn32tab", "math/bits.deBruijn64tab"], apart := false, laid := [("math/bits.deBruijn32tab", laid_math_bits_deBruijn32tab), ("math/bits.deBruijn64tab", laid_math_bits_deBruijn64tab), ("internal/strconv.uint64pow10", laid_internal_strconv_uint64pow10)], narrowed := true }
def ClosureLargestUptoSaid : Prop := closureLargestUptoRow.holds Tryz.pinned (OpenSpec.upto closureLargestSpec)

/-- 'wayfinderlaw30.ClosureWider', WHERE WHAT IT READS IS OF BULK AT MOST 1048576: true; the input reads as it did. -/
def closureWiderUptoRow : OpenClaim := { program := "ytnoildlijhapaaagreatdoor", sum := "3f0221ca5ad0d277133f8707bdf115018a78fab20b1bf916a80a56fd5b1cda68", func := "wayfinder/wayfinderlaw30.ClosureWider", spec := "closureWider", inPlace := ["internal/abi.NoEscape", "internal/bytealg.MakeNoZero"], unfollowed := true, recurses := true, named := ["math/bits.overflowError", "internal/strconv.uint64pow10", "math/bits.deBruijn32tab", "math/bits.deBruijn64tab"], apart := false, laid := [("math/bits.deBruijn32tab", laid_math_bits_deBruijn32tab), ("math/bits.deBruijn64tab", laid_math_bits_deBruijn64tab), ("internal/strconv.uint64pow10", laid_internal_strconv_uint64pow10)], narrowed := true }
def ClosureWiderUptoSaid : Prop := closureWiderUptoRow.holds Tryz.pinned (OpenSpec.upto closureWiderSpec)

/-- 'wayfinderlaw30.ClosureTruth', WHERE WHAT IT READS IS OF BULK AT MOST 1048576: true; the input reads as it did. -/
def closureTruthUptoRow : OpenClaim := { program := "ytnoildlijhapaaagreatdoor", sum := "3f0221ca5ad0d277133f8707bdf115018a78fab20b1bf916a80a56fd5b1cda68", func := "wayfinder/wayfinderlaw30.ClosureTruth", spec := "closureTruth", inPlace := ["internal/abi.NoEscape", "internal/bytealg.MakeNoZero"], unfollowed := true, recurses := true, named := ["math/bits.overflowError", "internal/strconv.uint64pow10", "math/bits.deBruijn32tab", "math/bits.deBruijn64tab"], apart := false, laid := [("math/bits.deBruijn32tab", laid_math_bits_deBruijn32tab), ("math/bits.deBruijn64tab", laid_math_bits_deBruijn64tab), ("internal/strconv.uint64pow10", laid_internal_strconv_uint64pow10)], narrowed := true }
def ClosureTruthUptoSaid : Prop := closureTruthUptoRow.holds Tryz.pinned (OpenSpec.upto closureTruthSpec)

/-- 'wayfinderlaw30.ClosureResiduals', WHERE WHAT IT READS IS OF BULK AT MOST 1048576: true; the input reads as it did. -/
def closureResidualsUptoRow : OpenClaim := { program := "ytnoildlijhapaaagreatdoor", sum := "3f0221ca5ad0d277133f8707bdf115018a78fab20b1bf916a80a56fd5b1cda68", func := "wayfinder/wayfinderlaw30.ClosureResiduals", spec := "closureResiduals", inPlace := ["internal/abi.NoEscape", "internal/bytealg.MakeNoZero"], unfollowed := true, recurses := true, named := ["math/bits.overflowError", "internal/strconv.uint64pow10", "math/bits.deBruijn32tab", "math/bits.deBruijn64tab"], apart := false, laid := [("math/bits.deBruijn32tab", laid_math_bits_deBruijn32tab), ("math/bits.deBruijn64tab", laid_math_bits_deBruijn64tab), ("internal/strconv.uint64pow10", laid_internal_strconv_uint64pow10)], narrowed := true }
def ClosureResidualsUptoSaid : Prop := closureResidualsUptoRow.holds Tryz.pinned (OpenSpec.upto closureResidualsSpec)

/-- 'wayfinderlaw30.ClosureWith', WHERE WHAT IT READS IS OF BULK AT MOST 1048576: true; the input reads as it did. -/
def closureWithUptoRow : OpenClaim := { program := "ytnoildlijhapaaagreatdoor", sum := "3f0221ca5ad0d277133f8707bdf115018a78fab20b1bf916a80a56fd5b1cda68", func := "wayfinder/wayfinderlaw30.ClosureWith", spec := "closureWith", inPlace := ["internal/abi.NoEscape", "internal/bytealg.MakeNoZero"], unfollowed := true, recurses := true, named := ["math/bits.overflowError", "internal/strconv.uint64pow10", "math/bits.deBruijn32tab", "math/bits.deBruijn64tab"], apart := false, laid := [("math/bits.deBruijn32tab", laid_math_bits_deBruijn32tab), ("math/bits.deBruijn64tab", laid_math_bits_deBruijn64tab), ("internal/strconv.uint64pow10", laid_internal_strconv_uint64pow10)], narrowed := true }
def ClosureWithUptoSaid : Prop := closureWithUptoRow.holds Tryz.pinned (OpenSpec.upto closureWithSpec)

/-- 'wayfindertop.WholeClosures', WHERE WHAT IT READS IS OF BULK AT MOST 1048576: true; the input reads as it did. -/
def wholeClosuresUptoRow : OpenClaim := { program := "ytnoildlijhapaaagreatdoor", sum := "3f0221ca5ad0d277133f8707bdf115018a78fab20b1bf916a80a56fd5b1cda68", func := "wayfinder/wayfindertop.WholeClosures", spec := "wholeClosures", inPlace := ["internal/abi.NoEscape", "internal/bytealg.MakeNoZero"], unfollowed := true, recurses := true, named := ["math/bits.overflowError", "internal/strconv.uint64pow10", "math/bits.deBruijn32tab", "math/bits.deBruijn64tab"], apart := false, laid := [("math/bits.deBruijn32tab", laid_math_bits_deBruijn32tab), ("math/bits.deBruijn64tab", laid_math_bits_deBruijn64tab), ("internal/strconv.uint64pow10", laid_internal_strconv_uint64pow10)], narrowed := true }
def WholeClosuresUptoSaid : Prop := wholeClosuresUptoRow.holds Tryz.pinned (OpenSpec.upto wholeClosuresSpec)

/-- 'wayfindertop.WholeMinimum', WHERE WHAT IT READS IS OF BULK AT MOST 1048576: true; the input reads as it did. -/
def wholeMinimumUptoRow : OpenClaim := { program := "ytnoildlijhapaaagreatdoor", sum := "3f0221ca5ad0d277133f8707bdf115018a78fab20b1bf916a80a56fd5b1cda68", func := "wayfinder/wayfindertop.WholeMinimum", spec := "wholeMinimum", inPlace := ["internal/abi.NoEscape", "internal/bytealg.MakeNoZero"], unfollowed := true, recurses := true, named := ["math/bits.overflowError", "internal/strconv.uint64pow10", "math/bits.deBruijn32tab", "math/bits.deBruijn64tab"], apart := false, laid := [("math/bits.deBruijn32tab", laid_math_bits_deBruijn32tab), ("math/bits.deBruijn64tab", laid_math_bits_deBruijn64tab), ("internal/strconv.uint64pow10", laid_internal_strconv_uint64pow10)], narrowed := true }
def WholeMinimumUptoSaid : Prop := wholeMinimumUptoRow.holds Tryz.pinned (OpenSpec.upto wholeMinimumSpec)

end Rows
end Go.Proofs.YtnoildlijhapaaaGreatDoor
