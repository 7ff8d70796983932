/-
  NARROWER THAN 'FOR EVERY INPUT', by the rows' own cells (each row's printed sentence says how): AdjustAnswers: laid · SolveFactors: laid · SolveRenumbers: laid · SolveSatisfies: laid · SolveSolves: laid · SolveProduct: laid · SolveMinors: laid · SolveSylvester: laid · SolvePositive: laid · SolveFill: laid · WholeTrees: laid.
  DERIVED. THE GIVEN ROWS OF THIS SEAT. 11 by the template 'for every input the law returns true; each argument reads behind the call as it read before'; 0 by the template 'total and deterministic' (their statements: YtfichkokppbipaaGreatDoorTotals.lean).
  GIVEN WITH THE SEED: the statements are not yours to turn. If you find one false, say at which input.
  Laid BY PROGRAM, IN A SANDBOX (cutbox-rows.mjs): the forced cells as the released guide's own fill.sh prints them over the translation 41fda4e38b50ab92… (all of the seat's roots in one cut). By AI agents, Wed Nov 11 2026. No macro, syntax, notation, axiom, sorry.
-/
import Derived.Test.YtfichkokppbipaaGreatDoorChecked
import GoSem.Claim
import GoSem.ClaimJoined
import GoSem.ClaimMapViews
import Derived.JoinedTies
import Derived.KernelRfl
namespace Go.Proofs.YtfichkokppbipaaGreatDoor
/- THE CELL 'sum', in the pinned program and in every row, IS THE sha256 OF THE DUMP (.gsa) THAT YtfichkokppbipaaGreatDoorProg.lean LOADS. Nothing in Lean hashes anything: it is a label: what it is worth is what the hold of that sum in a sandbox is worth. -/
noncomputable def Tryz.pinned : Pinned := { name := "ytfichkokppbipaagreatdoor", sum := "41fda4e38b50ab929b3061c4e4499ecba9ce2877c16b5ed7eb5c0743e78fe7a2", checked := Tryz.checked }
namespace Rows
def none {H : Type} : Left H := { results := [], args := [] }

/- WHAT THE LISTED PACKAGE-LEVEL VARIABLES READ AS WHEN THE CALL BEGINS. Each datum BY PROGRAM (the guide's laid-datum.mjs) off the statement by which the dump's own 'gosem.cut.vars' lays the variable. In a bare row this is a premise. The card (YtfichkokppbipaaGreatDoorCards.lean) ties it to the program's text. -/
def laid_math_bits_deBruijn32tab {H : Type} : DataW H := .agg [.lit (.int .u8 0), .lit (.int .u8 1), .lit (.int .u8 28), .lit (.int .u8 2), .lit (.int .u8 29), .lit (.int .u8 14), .lit (.int .u8 24), .lit (.int .u8 3), .lit (.int .u8 30), .lit (.int .u8 22), .lit (.int .u8 20), .lit (.int .u8 15), .lit (.int .u8 25), .lit (.int .u8 17), .lit (.int .u8 4), .lit (.int .u8 8), .lit (.int .u8 31), .lit (.int .u8 27), .lit (.int .u8 13), .lit (.int .u8 23), .lit (.int .u8 21), .lit (.int .u8 19), .lit (.int .u8 16), .lit (.int .u8 7), .lit (.int .u8 26), .lit (.int .u8 12), .lit (.int .u8 18), .lit (.int .u8 6), .lit (.int .u8 11), .lit (.int .u8 5), .lit (.int .u8 10), .lit (.int .u8 9)]
def laid_math_bits_deBruijn64tab {H : Type} : DataW H := .agg [.lit (.int .u8 0), .lit (.int .u8 1), .lit (.int .u8 56), .lit (.int .u8 2), .lit (.int .u8 57), .lit (.int .u8 49), .lit (.int .u8 28), .lit (.int .u8 3), .lit (.int .u8 61), .lit (.int .u8 58), .lit (.int .u8 42), .lit (.int .u8 50), .lit (.int .u8 38), .lit (.int .u8 29), .lit (.int .u8 17), .lit (.int .u8 4), .lit (.int .u8 62), .lit (.int .u8 47), .lit (.int .u8 59), .lit (.int .u8 36), .lit (.int .u8 45), .lit (.int .u8 43), .lit (.int .u8 51), .lit (.int .u8 22), .lit (.int .u8 53), .lit (.int .u8 39), .lit (.int .u8 33), .lit (.int .u8 30), .lit (.int .u8 24), .lit (.int .u8 18), .lit (.int .u8 12), .lit (.int .u8 5), .lit (.int .u8 63), .lit (.int .u8 55), .lit (.int .u8 48), .lit (.int .u8 27), .lit (.int .u8 60), .lit (.int .u8 41), .lit (.int .u8 37), .lit (.int .u8 16), .lit (.int .u8 46), .lit (.int .u8 35), .lit (.int .u8 44), .lit (.int .u8 21), .lit (.int .u8 52), .lit (.int .u8 32), .lit (.int .u8 23), .lit (.int .u8 11), .lit (.int .u8 54), .lit (.int .u8 26), .lit (.int .u8 40), .lit (.int .u8 15), .lit (.int .u8 34), .lit (.int .u8 20), .lit (.int .u8 31), .lit (.int .u8 10), .lit (.int .u8 25), .lit (.int .u8 14), .lit (.int .u8 19), .lit (.int .u8 9), .lit (.int .u8 13), .lit (.int .u8 8), .lit (.int .u8 7), .lit (.int .u8 6)]
def laid_internal_strconv_uint64pow10 {H : Type} : DataW H := .agg [.lit (.int .u64 1), .lit (.int .u64 10), .lit (.int .u64 100), .lit (.int .u64 1000), .lit (.int .u64 10000), .lit (.int .u64 100000), .lit (.int .u64 1000000), .lit (.int .u64 10000000), .lit (.int .u64 100000000), .lit (.int .u64 1000000000), .lit (.int .u64 10000000000), .lit (.int .u64 100000000000), .lit (.int .u64 1000000000000), .lit (.int .u64 10000000000000), .lit (.int .u64 100000000000000), .lit (.int .u64 1000000000000000), .lit (.int .u64 10000000000000000), .lit (.int .u64 100000000000000000), .lit (.int .u64 1000000000000000000), .lit (.int .u64 10000000000000000000)]

/-- 'wayfinderlaw31.AdjustAnswers': WHATEVER THE INPUT: true; the input reads as it did. -/
def adjustAnswersSpec : ChangeSpec := { name := "adjustAnswers", fn := fun _ => fun
  | [d1, d2] => { results := [.lit (.bool true)], args := [d1, d2] }
  | _ => none }
def adjustAnswersRow : OpenClaim := { program := "ytfichkokppbipaagreatdoor", sum := "41fda4e38b50ab929b3061c4e4499ecba9ce2877c16b5ed7eb5c0743e78fe7a2", func := "wayfinder/wayfinderlaw31.AdjustAnswers", spec := "adjustAnswers", inPlace := ["internal/abi.NoEscape", "internal/bytealg.MakeNoZero"], named := ["math/bits.overflowError", "internal/strconv.uint64pow10", "math/bits.deBruijn32tab", "math/bits.deBruijn64tab"], apart := false, laid := [("math/bits.deBruijn32tab", laid_math_bits_deBruijn32tab), ("math/bits.deBruijn64tab", laid_math_bits_deBruijn64tab), ("internal/strconv.uint64pow10", laid_internal_strconv_uint64pow10)] }
def AdjustAnswersSaid : Prop := adjustAnswersRow.holds Tryz.pinned (OpenSpec.ofChange adjustAnswersSpec)

/-- ITS FALSE NEIGHBOUR: 'it returns false'. Refute it at one input. -/
def adjustAnswersWrong : ChangeSpec := { name := "adjustAnswers", fn := fun _ => fun
  | [d1, d2] => { results := [.lit (.bool false)], args := [d1, d2] }
  | _ => none }
def AdjustAnswersWrongFalsely : Prop := adjustAnswersRow.holds Tryz.pinned (OpenSpec.ofChange adjustAnswersWrong)

/-- 'wayfinderlaw27.SolveFactors': WHATEVER THE INPUT: true; the input reads as it did. -/
def solveFactorsSpec : ChangeSpec := { name := "solveFactors", fn := fun _ => fun
  | [d1, d2] => { results := [.lit (.bool true)], args := [d1, d2] }
  | _ => none }
def solveFactorsRow : OpenClaim := { program := "ytfichkokppbipaagreatdoor", sum := "41fda4e38b50ab929b3061c4e4499ecba9ce2877c16b5ed7eb5c0743e78fe7a2", func := "wayfinder/wayfinderlaw27.SolveFactors", spec := "solveFactors", inPlace := ["internal/abi.NoEscape", "internal/bytealg.MakeNoZero"], unfollowed := true, recurses := true, named := ["math/bits.overflowError", "internal/strconv.uint64pow10", "math/bits.deBruijn32tab", "math/bits.deBruijn64tab"], apart := false, laid := [("math/bits.deBruijn32tab", laid_math_bits_deBruijn32tab), ("math/bits.deBruijn64tab", laid_math_bits_deBruijn64tab), ("internal/strconv.uint64pow10", laid_internal_strconv_uint64pow10)] }
def SolveFactorsSaid : Prop := solveFactorsRow.holds Tryz.pinned (OpenSpec.ofChange solveFactorsSpec)

/-- ITS FALSE NEIGHBOUR: 'it returns false'. Refute it at one input. -/
def solveFactorsWrong : ChangeSpec := { name := "solveFactors", fn := fun _ => fun
  | [d1, d2] => { results := [.lit (.bool false)], args := [d1, d2] }
  | _ => none }
def SolveFactorsWrongFalsely : Prop := solveFactorsRow.holds Tryz.pinned (OpenSpec.ofChange solveFactorsWrong)

/-- 'wayfinderlaw27.SolveRenumbers': WHATEVER THE INPUT: true; the input reads as it did. -/
def solveRenumbersSpec : ChangeSpec := { name := "solveRenumbers", fn := fun _ => fun
  | [d1, d2, d3] => { results := [.lit (.bool true)], args := [d1, d2, d3] }
  | _ => none }
def solveRenumbersRow : OpenClaim := { program := "ytfichkokppbipaagreatdoor", sum := "41fda4e38b50ab929b3061c4e4499ecba9ce2877c16b5ed7eb5c0743e78fe7a2", func := "wayfinder/wayfinderlaw27.SolveRenumbers", spec := "solveRenumbers", inPlace := ["internal/abi.NoEscape", "internal/bytealg.MakeNoZero"], unfollowed := true, recurses := true, named := ["math/bits.overflowError", "internal/strconv.uint64pow10", "math/bits.deBruijn32tab", "math/bits.deBruijn64tab"], apart := false, laid := [("math/bits.deBruijn32tab", laid_math_bits_deBruijn32tab), ("math/bits.deBruijn64tab", laid_math_bits_deBruijn64tab), ("internal/strconv.uint64pow10", laid_internal_strconv_uint64pow10)] }
def SolveRenumbersSaid : Prop := solveRenumbersRow.holds Tryz.pinned (OpenSpec.ofChange solveRenumbersSpec)

/-- ITS FALSE NEIGHBOUR: 'it returns false'. Refute it at one input. -/
def solveRenumbersWrong : ChangeSpec := { name := "solveRenumbers", fn := fun _ => fun
  | [d1, d2, d3] => { results := [.lit (.bool false)], args := [d1, d2, d3] }
  | _ => none }
def SolveRenumbersWrongFalsely : Prop := solveRenumbersRow.holds Tryz.pinned (OpenSpec.ofChange solveRenumbersWrong)

/-- 'wayfinderlaw27.SolveSatisfies': WHATEVER THE INPUT: true; the input reads as it did. -/
def solveSatisfiesSpec : ChangeSpec := { name := "solveSatisfies", fn := fun _ => fun
  | [d1, d2] => { results := [.lit (.bool true)], args := [d1, d2] }
  | _ => none }
def solveSatisfiesRow : OpenClaim := { program := "ytfichkokppbipaagreatdoor", sum := "41fda4e38b50ab929b3061c4e4499ecba9ce2877c16b5ed7eb5c0743e78fe7a2", func := "wayfinder/wayfinderlaw27.SolveSatisfies", spec := "solveSatisfies", inPlace := ["internal/abi.NoEscape", "internal/bytealg.MakeNoZero"], unfollowed := true, recurses := true, named := ["math/bits.overflowError", "internal/strconv.uint64pow10", "math/bits.deBruijn32tab", "math/bits.deBruijn64tab"], apart := false, laid := [("math/bits.deBruijn32tab", laid_math_bits_deBruijn32tab), ("math/bits.deBruijn64tab", laid_math_bits_deBruijn64tab), ("internal/strconv.uint64pow10", laid_internal_strconv_uint64pow10)] }
def SolveSatisfiesSaid : Prop := solveSatisfiesRow.holds Tryz.pinned (OpenSpec.ofChange solveSatisfiesSpec)

/-- ITS FALSE NEIGHBOUR: 'it returns false'. Refute it at one input. -/
def solveSatisfiesWrong : ChangeSpec := { name := "solveSatisfies", fn := fun _ => fun
  | [d1, d2] => { results := [.lit (.bool false)], args := [d1, d2] }
  | _ => none }
def SolveSatisfiesWrongFalsely : Prop := solveSatisfiesRow.holds Tryz.pinned (OpenSpec.ofChange solveSatisfiesWrong)

/-- 'wayfinderlaw27.SolveSolves': WHATEVER THE INPUT: true; the input reads as it did. -/
def solveSolvesSpec : ChangeSpec := { name := "solveSolves", fn := fun _ => fun
  | [d1, d2] => { results := [.lit (.bool true)], args := [d1, d2] }
  | _ => none }
def solveSolvesRow : OpenClaim := { program := "ytfichkokppbipaagreatdoor", sum := "41fda4e38b50ab929b3061c4e4499ecba9ce2877c16b5ed7eb5c0743e78fe7a2", func := "wayfinder/wayfinderlaw27.SolveSolves", spec := "solveSolves", inPlace := ["internal/abi.NoEscape", "internal/bytealg.MakeNoZero"], unfollowed := true, recurses := true, named := ["math/bits.overflowError", "internal/strconv.uint64pow10", "math/bits.deBruijn32tab", "math/bits.deBruijn64tab"], apart := false, laid := [("math/bits.deBruijn32tab", laid_math_bits_deBruijn32tab), ("math/bits.deBruijn64tab", laid_math_bits_deBruijn64tab), ("internal/strconv.uint64pow10", laid_internal_strconv_uint64pow10)] }
def SolveSolvesSaid : Prop := solveSolvesRow.holds Tryz.pinned (OpenSpec.ofChange solveSolvesSpec)

/-- ITS FALSE NEIGHBOUR: 'it returns false'. Refute it at one input. -/
def solveSolvesWrong : ChangeSpec := { name := "solveSolves", fn := fun _ => fun
  | [d1, d2] => { results := [.lit (.bool false)], args := [d1, d2] }
  | _ => none }
def SolveSolvesWrongFalsely : Prop := solveSolvesRow.holds Tryz.pinned (OpenSpec.ofChange solveSolvesWrong)

/-- 'wayfinderlaw27.SolveProduct': WHATEVER THE INPUT: true; the input reads as it did. -/
def solveProductSpec : ChangeSpec := { name := "solveProduct", fn := fun _ => fun
  | [d1, d2] => { results := [.lit (.bool true)], args := [d1, d2] }
  | _ => none }
def solveProductRow : OpenClaim := { program := "ytfichkokppbipaagreatdoor", sum := "41fda4e38b50ab929b3061c4e4499ecba9ce2877c16b5ed7eb5c0743e78fe7a2", func := "wayfinder/wayfinderlaw27.SolveProduct", spec := "solveProduct", inPlace := ["internal/abi.NoEscape", "internal/bytealg.MakeNoZero"], unfollowed := true, recurses := true, named := ["math/bits.overflowError", "internal/strconv.uint64pow10", "math/bits.deBruijn32tab", "math/bits.deBruijn64tab"], apart := false, laid := [("math/bits.deBruijn32tab", laid_math_bits_deBruijn32tab), ("math/bits.deBruijn64tab", laid_math_bits_deBruijn64tab), ("internal/strconv.uint64pow10", laid_internal_strconv_uint64pow10)] }
def SolveProductSaid : Prop := solveProductRow.holds Tryz.pinned (OpenSpec.ofChange solveProductSpec)

/-- ITS FALSE NEIGHBOUR: 'it returns false'. Refute it at one input. -/
def solveProductWrong : ChangeSpec := { name := "solveProduct", fn := fun _ => fun
  | [d1, d2] => { results := [.lit (.bool false)], args := [d1, d2] }
  | _ => none }
def SolveProductWrongFalsely : Prop := solveProductRow.holds Tryz.pinned (OpenSpec.ofChange solveProductWrong)

/-- 'wayfinderlaw27.SolveMinors': WHATEVER THE INPUT: true; the input reads as it did. -/
def solveMinorsSpec : ChangeSpec := { name := "solveMinors", fn := fun _ => fun
  | [d1, d2] => { results := [.lit (.bool true)], args := [d1, d2] }
  | _ => none }
def solveMinorsRow : OpenClaim := { program := "ytfichkokppbipaagreatdoor", sum := "41fda4e38b50ab929b3061c4e4499ecba9ce2877c16b5ed7eb5c0743e78fe7a2", func := "wayfinder/wayfinderlaw27.SolveMinors", spec := "solveMinors", inPlace := ["internal/abi.NoEscape", "internal/bytealg.MakeNoZero"], unfollowed := true, recurses := true, named := ["math/bits.overflowError", "internal/strconv.uint64pow10", "math/bits.deBruijn32tab", "math/bits.deBruijn64tab"], apart := false, laid := [("math/bits.deBruijn32tab", laid_math_bits_deBruijn32tab), ("math/bits.deBruijn64tab", laid_math_bits_deBruijn64tab), ("internal/strconv.uint64pow10", laid_internal_strconv_uint64pow10)] }
def SolveMinorsSaid : Prop := solveMinorsRow.holds Tryz.pinned (OpenSpec.ofChange solveMinorsSpec)

/-- ITS FALSE NEIGHBOUR: 'it returns false'. Refute it at one input. -/
def solveMinorsWrong : ChangeSpec := { name := "solveMinors", fn := fun _ => fun
  | [d1, d2] => { results := [.lit (.bool false)], args := [d1, d2] }
  | _ => none }
def SolveMinorsWrongFalsely : Prop := solveMinorsRow.holds Tryz.pinned (OpenSpec.ofChange solveMinorsWrong)

/-- 'wayfinderlaw27.SolveSylvester': WHATEVER THE INPUT: true; the input reads as it did. -/
def solveSylvesterSpec : ChangeSpec := { name := "solveSylvester", fn := fun _ => fun
  | [d] => { results := [.lit (.bool true)], args := [d] }
  | _ => none }
def solveSylvesterRow : OpenClaim := { program := "ytfichkokppbipaagreatdoor", sum := "41fda4e38b50ab929b3061c4e4499ecba9ce2877c16b5ed7eb5c0743e78fe7a2", func := "wayfinder/wayfinderlaw27.SolveSylvester", spec := "solveSylvester", inPlace := ["internal/abi.NoEscape", "internal/bytealg.MakeNoZero"], unfollowed := true, recurses := true, named := ["math/bits.overflowError", "internal/strconv.uint64pow10", "math/bits.deBruijn32tab", "math/bits.deBruijn64tab"], apart := false, laid := [("math/bits.deBruijn32tab", laid_math_bits_deBruijn32tab), ("math/bits.deBruijn64tab", laid_math_bits_deBruijn64tab), ("internal/strconv.uint64pow10", laid_internal_strconv_uint64pow10)] }
def SolveSylvesterSaid : Prop := solveSylvesterRow.holds Tryz.pinned (OpenSpec.ofChange solveSylvesterSpec)

/-- ITS FALSE NEIGHBOUR: 'it returns false'. Refute it at one input. -/
def solveSylvesterWrong : ChangeSpec := { name := "solveSylvester", fn := fun _ => fun
  | [d] => { results := [.lit (.bool false)], args := [d] }
  | _ => none }
def SolveSylvesterWrongFalsely : Prop := solveSylvesterRow.holds Tryz.pinned (OpenSpec.ofChange solveSylvesterWrong)

/-- 'wayfinderlaw27.SolvePositive': WHATEVER THE INPUT: true; the input reads as it did. -/
def solvePositiveSpec : ChangeSpec := { name := "solvePositive", fn := fun _ => fun
  | [d1, d2] => { results := [.lit (.bool true)], args := [d1, d2] }
  | _ => none }
def solvePositiveRow : OpenClaim := { program := "ytfichkokppbipaagreatdoor", sum := "41fda4e38b50ab929b3061c4e4499ecba9ce2877c16b5ed7eb5c0743e78fe7a2", func := "wayfinder/wayfinderlaw27.SolvePositive", spec := "solvePositive", inPlace := ["internal/abi.NoEscape", "internal/bytealg.MakeNoZero"], unfollowed := true, recurses := true, named := ["math/bits.overflowError", "internal/strconv.uint64pow10", "math/bits.deBruijn32tab", "math/bits.deBruijn64tab"], apart := false, laid := [("math/bits.deBruijn32tab", laid_math_bits_deBruijn32tab), ("math/bits.deBruijn64tab", laid_math_bits_deBruijn64tab), ("internal/strconv.uint64pow10", laid_internal_strconv_uint64pow10)] }
def SolvePositiveSaid : Prop := solvePositiveRow.holds Tryz.pinned (OpenSpec.ofChange solvePositiveSpec)

/-- ITS FALSE NEIGHBOUR: 'it returns false'. Refute it at one input. -/
def solvePositiveWrong : ChangeSpec := { name := "solvePositive", fn := fun _ => fun
  | [d1, d2] => { results := [.lit (.bool false)], args := [d1, d2] }
  | _ => none }
def SolvePositiveWrongFalsely : Prop := solvePositiveRow.holds Tryz.pinned (OpenSpec.ofChange solvePositiveWrong)

/-- 'wayfinderlaw27.SolveFill': WHATEVER THE INPUT: true; the input reads as it did. -/
def solveFillSpec : ChangeSpec := { name := "solveFill", fn := fun _ => fun
  | [d1, d2] => { results := [.lit (.bool true)], args := [d1, d2] }
  | _ => none }
def solveFillRow : OpenClaim := { program := "ytfichkokppbipaagreatdoor", sum := "41fda4e38b50ab929b3061c4e4499ecba9ce2877c16b5ed7eb5c0743e78fe7a2", func := "wayfinder/wayfinderlaw27.SolveFill", spec := "solveFill", inPlace := ["internal/abi.NoEscape", "internal/bytealg.MakeNoZero"], unfollowed := true, recurses := true, named := ["math/bits.overflowError", "internal/strconv.uint64pow10", "math/bits.deBruijn32tab", "math/bits.deBruijn64tab"], apart := false, laid := [("math/bits.deBruijn32tab", laid_math_bits_deBruijn32tab), ("math/bits.deBruijn64tab", laid_math_bits_deBruijn64tab), ("internal/strconv.uint64pow10", laid_internal_strconv_uint64pow10)] }
def SolveFillSaid : Prop := solveFillRow.holds Tryz.pinned (OpenSpec.ofChange solveFillSpec)

/-- ITS FALSE NEIGHBOUR: 'it returns false'. Refute it at one input. -/
def solveFillWrong : ChangeSpec := { name := "solveFill", fn := fun _ => fun
  | [d1, d2] => { results := [.lit (.bool false)], args := [d1, d2] }
  | _ => none }
def SolveFillWrongFalsely : Prop := solveFillRow.holds Tryz.pinned (OpenSpec.ofChange solveFillWrong)

/-- 'wayfindertop.WholeTrees': WHATEVER THE INPUT: true; the input reads as it did. -/
def wholeTreesSpec : ChangeSpec := { name := "wholeTrees", fn := fun _ => fun
  | [d] => { results := [.lit (.bool true)], args := [d] }
  | _ => none }
def wholeTreesRow : OpenClaim := { program := "ytfichkokppbipaagreatdoor", sum := "41fda4e38b50ab929b3061c4e4499ecba9ce2877c16b5ed7eb5c0743e78fe7a2", func := "wayfinder/wayfindertop.WholeTrees", spec := "wholeTrees", inPlace := ["internal/abi.NoEscape", "internal/bytealg.MakeNoZero"], unfollowed := true, recurses := true, named := ["math/bits.overflowError", "internal/strconv.uint64pow10", "math/bits.deBruijn32tab", "math/bits.deBruijn64tab"], apart := false, laid := [("math/bits.deBruijn32tab", laid_math_bits_deBruijn32tab), ("math/bits.deBruijn64tab", laid_math_bits_deBruijn64tab), ("internal/strconv.uint64pow10", laid_internal_strconv_uint64pow10)] }
def WholeTreesSaid : Prop := wholeTreesRow.holds Tryz.pinned (OpenSpec.ofChange wholeTreesSpec)

/-- ITS FALSE NEIGHBOUR: 'it returns false'. Refute it at one input. -/
def wholeTreesWrong : ChangeSpec := { name := "wholeTrees", fn := fun _ => fun
  | [d] => { results := [.lit (.bool false)], args := [d] }
  | _ => none }
def WholeTreesWrongFalsely : Prop := wholeTreesRow.holds Tryz.pinned (OpenSpec.ofChange wholeTreesWrong)

/- THE SECOND FORM. 'bulk': how many values and letters a reading holds, each counted each time it is reached (what is shared counts as often as it is met; a slice's spare places count too). A statement '..UptoSaid' is the law's where the arguments, and the package variables that the reading takes, are together of bulk at most 1048576: NARROWER than '..Said'. Prove '..Said' where nothing that the law and all that it calls make is longer than what came in: it says more and counts as full. Else prove '..UptoSaid'. A law counts once. -/
mutual
def uptoBulk {H : Type} : DataW H → Nat
  | .lit (.string bytes) => bytes.length + 1
  | .lit _ => 1
  | .nil => 1
  | .ptr d => uptoBulk d + 1
  | .slice elems spare => uptoBulkAll elems + uptoBulkAll spare + 1
  | .agg parts => uptoBulkAll parts + 1
  | .iface _ d => uptoBulk d + 1
  | .map entries => uptoBulkEntries entries + 1
  | .held _ => 1
def uptoBulkAll {H : Type} : List (DataW H) → Nat
  | [] => 0
  | d :: r => uptoBulk d + uptoBulkAll r
def uptoBulkEntries {H : Type} : List (Lit × DataW H) → Nat
  | [] => 0
  | x :: r => uptoBulkEntry x + uptoBulkEntries r
def uptoBulkEntry {H : Type} : Lit × DataW H → Nat
  | (.string bytes, d) => bytes.length + uptoBulk d + 1
  | (_, d) => uptoBulk d + 1
 end
def uptoSmall : (H : Type) → List (DataW H) → Bool := fun _ ds => decide (uptoBulkAll ds ≤ 1048576)
def OpenSpec.upto (s : _root_.Go.ChangeSpec) : _root_.Go.OpenSpec := { _root_.Go.OpenSpec.ofChange s with cond := some uptoSmall }

/-- 'wayfinderlaw31.AdjustAnswers', WHERE WHAT IT READS IS OF BULK AT MOST 1048576: true; the input reads as it did. -/
def adjustAnswersUptoRow : OpenClaim := { program := "ytfichkokppbipaagreatdoor", sum := "41fda4e38b50ab929b3061c4e4499ecba9ce2877c16b5ed7eb5c0743e78fe7a2", func := "wayfinder/wayfinderlaw31.AdjustAnswers", spec := "adjustAnswers", inPlace := ["internal/abi.NoEscape", "internal/bytealg.MakeNoZero"], named := ["math/bits.overflowError", "internal/strconv.uint64pow10", "math/bits.deBruijn32tab", "math/bits.deBruijn64tab"], apart := false, laid := [("math/bits.deBruijn32tab", laid_math_bits_deBruijn32tab), ("math/bits.deBruijn64tab", laid_math_bits_deBruijn64tab), ("internal/strconv.uint64pow10", laid_internal_strconv_uint64pow10)], narrowed := true }
def AdjustAnswersUptoSaid : Prop := adjustAnswersUptoRow.holds Tryz.pinned (OpenSpec.upto adjustAnswersSpec)

/-- 'wayfinderlaw27.SolveFactors', WHERE WHAT IT READS IS OF BULK AT MOST 1048576: true; the input reads as it did. -/
def solveFactorsUptoRow : OpenClaim := { program := "ytfichkokppbipaagreatdoor", sum := "41fda4e38b50ab929b3061c4e4499ecba9ce2877c16b5ed7eb5c0743e78fe7a2", func := "wayfinder/wayfinderlaw27.SolveFactors", spec := "solveFactors", inPlace := ["internal/abi.NoEscape", "internal/bytealg.MakeNoZero"], unfollowed := true, recurses := true, named := ["math/bits.overflowError", "internal/strconv.uint64pow10", "math/bits.deBruijn32tab", "math/bits.deBruijn64tab"], apart := false, laid := [("math/bits.deBruijn32tab", laid_math_bits_deBruijn32tab), ("math/bits.deBruijn64tab", laid_math_bits_deBruijn64tab), ("internal/strconv.uint64pow10", laid_internal_strconv_uint64pow10)], narrowed := true }
def SolveFactorsUptoSaid : Prop := solveFactorsUptoRow.holds Tryz.pinned (OpenSpec.upto solveFactorsSpec)

/-- 'wayfinderlaw27.SolveRenumbers', WHERE WHAT IT READS IS OF BULK AT MOST 1048576: true; the input reads as it did. -/
def solveRenumbersUptoRow : OpenClaim := { program := "ytfichkokppbipaagreatdoor", sum := "41fda4e38b50ab929b3061c4e4499ecba9ce2877c16b5ed7eb5c0743e78fe7a2", func := "wayfinder/wayfinderlaw27.SolveRenumbers", spec := "solveRenumbers", inPlace := ["internal/abi.NoEscape", "internal/bytealg.MakeNoZero"], unfollowed := true, recurses := true, named := ["math/bits.overflowError", "internal/strconv.uint64pow10", "math/bits.deBruijn32tab", "math/bits.deBruijn64tab"], apart := false, laid := [("math/bits.deBruijn32tab", laid_math_bits_deBruijn32tab), ("math/bits.deBruijn64tab", laid_math_bits_deBruijn64tab), ("internal/strconv.uint64pow10", laid_internal_strconv_uint64pow10)], narrowed := true }
def SolveRenumbersUptoSaid : Prop := solveRenumbersUptoRow.holds Tryz.pinned (OpenSpec.upto solveRenumbersSpec)

/-- 'wayfinderlaw27.SolveSatisfies', WHERE WHAT IT READS IS OF BULK AT MOST 1048576: true; the input reads as it did. -/
def solveSatisfiesUptoRow : OpenClaim := { program := "ytfichkokppbipaagreatdoor", sum := "41fda4e38b50ab929b3061c4e4499ecba9ce2877c16b5ed7eb5c0743e78fe7a2", func := "wayfinder/wayfinderlaw27.SolveSatisfies", spec := "solveSatisfies", inPlace := ["internal/abi.NoEscape", "internal/bytealg.MakeNoZero"], unfollowed := true, recurses := true, named := ["math/bits.overflowError", "internal/strconv.uint64pow10", "math/bits.deBruijn32tab", "math/bits.deBruijn64tab"], apart := false, laid := [("math/bits.deBruijn32tab", laid_math_bits_deBruijn32tab), ("math/bits.deBruijn64tab", laid_math_bits_deBruijn64tab), ("internal/strconv.uint64pow10", laid_internal_strconv_uint64pow10)], narrowed := true }
def SolveSatisfiesUptoSaid : Prop := solveSatisfiesUptoRow.holds Tryz.pinned (OpenSpec.upto solveSatisfiesSpec)

/-- 'wayfinderlaw27.SolveSolves', WHERE WHAT IT READS IS OF BULK AT MOST 1048576: true; the input reads as it did. -/
def solveSolvesUptoRow : OpenClaim := { program := "ytfichkokppbipaagreatdoor", sum := "41fda4e38b50ab929b3061c4e4499ecba9ce2877c16b5ed7eb5c0743e78fe7a2", func := "wayfinder/wayfinderlaw27.SolveSolves", spec := "solveSolves", inPlace := ["internal/abi.NoEscape", "internal/bytealg.MakeNoZero"], unfollowed := true, recurses := true, named := ["math/bits.overflowError", "internal/strconv.uint64pow10", "math/bits.deBruijn32tab", "math/bits.deBruijn64tab"], apart := false, laid := [("math/bits.deBruijn32tab", laid_math_bits_deBruijn32tab), ("math/bits.deBruijn64tab", laid_math_bits_deBruijn64tab), ("internal/strconv.uint64pow10", laid_internal_strconv_uint64pow10)], narrowed := true }
def SolveSolvesUptoSaid : Prop := solveSolvesUptoRow.holds Tryz.pinned (OpenSpec.upto solveSolvesSpec)

/-- 'wayfinderlaw27.SolveProduct', WHERE WHAT IT READS IS OF BULK AT MOST 1048576: true; the input reads as it did. -/
def solveProductUptoRow : OpenClaim := { program := "ytfichkokppbipaagreatdoor", sum := "41fda4e38b50ab929b3061c4e4499ecba9ce2877c16b5ed7eb5c0743e78fe7a2", func := "wayfinder/wayfinderlaw27.SolveProduct", spec := "solveProduct", inPlace := ["internal/abi.NoEscape", "internal/bytealg.MakeNoZero"], unfollowed := true, recurses := true, named := ["math/bits.overflowError", "internal/strconv.uint64pow10", "math/bits.deBruijn32tab", "math/bits.deBruijn64tab"], apart := false, laid := [("math/bits.deBruijn32tab", laid_math_bits_deBruijn32tab), ("math/bits.deBruijn64tab", laid_math_bits_deBruijn64tab), ("internal/strconv.uint64pow10", laid_internal_strconv_uint64pow10)], narrowed := true }
def SolveProductUptoSaid : Prop := solveProductUptoRow.holds Tryz.pinned (OpenSpec.upto solveProductSpec)

/-- 'wayfinderlaw27.SolveMinors', WHERE WHAT IT READS IS OF BULK AT MOST 1048576: true; the input reads as it did. -/
def solveMinorsUptoRow : OpenClaim := { program := "ytfichkokppbipaagreatdoor", sum := "41fda4e38b50ab929b3061c4e4499ecba9ce2877c16b5ed7eb5c0743e78fe7a2", func := "wayfinder/wayfinderlaw27.SolveMinors", spec := "solveMinors", inPlace := ["internal/abi.NoEscape", "internal/bytealg.MakeNoZero"], unfollowed := true, recurses := true, named := ["math/bits.overflowError", "internal/strconv.uint64pow10", "math/bits.deBruijn32tab", "math/bits.deBruijn64tab"], apart := false, laid := [("math/bits.deBruijn32tab", laid_math_bits_deBruijn32tab), ("math/bits.deBruijn64tab", laid_math_bits_deBruijn64tab), ("internal/strconv.uint64pow10", laid_internal_strconv_uint64pow10)], narrowed := true }
def SolveMinorsUptoSaid : Prop := solveMinorsUptoRow.holds Tryz.pinned (OpenSpec.upto solveMinorsSpec)

/-- 'wayfinderlaw27.SolveSylvester', WHERE WHAT IT READS IS OF BULK AT MOST 1048576: true; the input reads as it did. -/
def solveSylvesterUptoRow : OpenClaim := { program := "ytfichkokppbipaagreatdoor", sum := "41fda4e38b50ab929b3061c4e4499ecba9ce2877c16b5ed7eb5c0743e78fe7a2", func := "wayfinder/wayfinderlaw27.SolveSylvester", spec := "solveSylvester", inPlace := ["internal/abi.NoEscape", "internal/bytealg.MakeNoZero"], unfollowed := true, recurses := true, named := ["math/bits.overflowError", "internal/strconv.uint64pow10", "math/bits.deBruijn32tab", "math/bits.deBruijn64tab"], apart := false, laid := [("math/bits.deBruijn32tab", laid_math_bits_deBruijn32tab), ("math/bits.deBruijn64tab", laid_math_bits_deBruijn64tab), ("internal/strconv.uint64pow10", laid_internal_strconv_uint64pow10)], narrowed := true }
def SolveSylvesterUptoSaid : Prop := solveSylvesterUptoRow.holds Tryz.pinned (OpenSpec.upto solveSylvesterSpec)

/-- 'wayfinderlaw27.SolvePositive', WHERE WHAT IT READS IS OF BULK AT MOST 1048576: true; the input reads as it did. -/
def solvePositiveUptoRow : OpenClaim := { program := "ytfichkokppbipaagreatdoor", sum := "41fda4e38b50ab929b3061c4e4499ecba9ce2877c16b5ed7eb5c0743e78fe7a2", func := "wayfinder/wayfinderlaw27.SolvePositive", spec := "solvePositive", inPlace := ["internal/abi.NoEscape", "internal/bytealg.MakeNoZero"], unfollowed := true, recurses := true, named := ["math/bits.overflowError", "internal/strconv.uint64pow10", "math/bits.deBruijn32tab", "math/bits.deBruijn64tab"], apart := false, laid := [("math/bits.deBruijn32tab", laid_math_bits_deBruijn32tab), ("math/bits.deBruijn64tab", laid_math_bits_deBruijn64tab), ("internal/strconv.uint64pow10", laid_internal_strconv_uint64pow10)], narrowed := true }
def SolvePositiveUptoSaid : Prop := solvePositiveUptoRow.holds Tryz.pinned (OpenSpec.upto solvePositiveSpec)

/-- 'wayfinderlaw27.SolveFill', WHERE WHAT IT READS IS OF BULK AT MOST 1048576: true; the input reads as it did. -/
def solveFillUptoRow : OpenClaim := { program := "ytfichkokppbipaagreatdoor", sum := "41fda4e38b50ab929b3061c4e4499ecba9ce2877c16b5ed7eb5c0743e78fe7a2", func := "wayfinder/wayfinderlaw27.SolveFill", spec := "solveFill", inPlace := ["internal/abi.NoEscape", "internal/bytealg.MakeNoZero"], unfollowed := true, recurses := true, named := ["math/bits.overflowError", "internal/strconv.uint64pow10", "math/bits.deBruijn32tab", "math/bits.deBruijn64tab"], apart := false, laid := [("math/bits.deBruijn32tab", laid_math_bits_deBruijn32tab), ("math/bits.deBruijn64tab", laid_math_bits_deBruijn64tab), ("internal/strconv.uint64pow10", laid_internal_strconv_uint64pow10)], narrowed := true }
def SolveFillUptoSaid : Prop := solveFillUptoRow.holds Tryz.pinned (OpenSpec.upto solveFillSpec)

/-- 'wayfindertop.WholeTrees', WHERE WHAT IT READS IS OF BULK AT MOST 1048576: true; the input reads as it did. -/
def wholeTreesUptoRow : OpenClaim := { program := "ytfichkokppbipaagreatdoor", sum := "41fda4e38b50ab929b3061c4e4499ecba9ce2877c16b5ed7eb5c0743e78fe7a2", func := "wayfinder/wayfindertop.WholeTrees", spec := "wholeTrees", inPlace := ["internal/abi.NoEscape", "internal/bytealg.MakeNoZero"], unfollowed := true, recurses := true, named := ["math/bits.overflowError", "internal/strconv.uint64pow10", "math/bits.deBruijn32tab", "math/bits.deBruijn64tab"], apart := false, laid := [("math/bits.deBruijn32tab", laid_math_bits_deBruijn32tab), ("math/bits.deBruijn64tab", laid_math_bits_deBruijn64tab), ("internal/strconv.uint64pow10", laid_internal_strconv_uint64pow10)], narrowed := true }
def WholeTreesUptoSaid : Prop := wholeTreesUptoRow.holds Tryz.pinned (OpenSpec.upto wholeTreesSpec)

end Rows
end Go.Proofs.YtfichkokppbipaaGreatDoor
