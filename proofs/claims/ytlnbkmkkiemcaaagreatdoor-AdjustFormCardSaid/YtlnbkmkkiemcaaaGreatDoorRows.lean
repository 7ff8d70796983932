/-
  NARROWER THAN 'FOR EVERY INPUT', by the rows' own cells (each row's printed sentence says how): WholeMinimum: laid · AdjustLeast: laid · AdjustOrder: laid · AdjustMerges: laid · AdjustTruth: laid · AdjustAnswers: laid · AdjustGradient: laid · AdjustForm: laid · AdjustGrows: laid · AdjustPlays: laid.
  DERIVED. THE GIVEN ROWS OF THIS SEAT. 10 by the template 'for every input the law returns true; each argument reads behind the call as it read before'; 0 by the template 'total and deterministic' (their statements: YtlnbkmkkiemcaaaGreatDoorTotals.lean).
  GIVEN WITH THE SEED: the statements are not yours to turn. If you find one false, say at which input.
  Laid BY PROGRAM, IN A SANDBOX (cutbox-rows.mjs): the forced cells as the released guide's own fill.sh prints them over the translation 1116b316ae0ea070… (all of the seat's roots in one cut). By AI agents, Wed Nov 11 2026. No macro, syntax, notation, axiom, sorry.
-/
import Derived.Test.YtlnbkmkkiemcaaaGreatDoorChecked
import GoSem.Claim
import GoSem.ClaimJoined
import GoSem.ClaimMapViews
import Derived.JoinedTies
import Derived.KernelRfl
namespace Go.Proofs.YtlnbkmkkiemcaaaGreatDoor
/- THE CELL 'sum', in the pinned program and in every row, IS THE sha256 OF THE DUMP (.gsa) THAT YtlnbkmkkiemcaaaGreatDoorProg.lean LOADS. Nothing in Lean hashes anything: it is a label: what it is worth is what the hold of that sum in a sandbox is worth. -/
noncomputable def Tryz.pinned : Pinned := { name := "ytlnbkmkkiemcaaagreatdoor", sum := "1116b316ae0ea070f53d90065fc46fbf6babff6c5d562ad1fafda716d57fc8e4", checked := Tryz.checked }
namespace Rows
def none {H : Type} : Left H := { results := [], args := [] }

/- WHAT THE LISTED PACKAGE-LEVEL VARIABLES READ AS WHEN THE CALL BEGINS. Each datum BY PROGRAM (the guide's laid-datum.mjs) off the statement by which the dump's own 'gosem.cut.vars' lays the variable. In a bare row this is a premise. The card (YtlnbkmkkiemcaaaGreatDoorCards.lean) ties it to the program's text. -/
def laid_math_bits_deBruijn32tab {H : Type} : DataW H := .agg [.lit (.int .u8 0), .lit (.int .u8 1), .lit (.int .u8 28), .lit (.int .u8 2), .lit (.int .u8 29), .lit (.int .u8 14), .lit (.int .u8 24), .lit (.int .u8 3), .lit (.int .u8 30), .lit (.int .u8 22), .lit (.int .u8 20), .lit (.int .u8 15), .lit (.int .u8 25), .lit (.int .u8 17), .lit (.int .u8 4), .lit (.int .u8 8), .lit (.int .u8 31), .lit (.int .u8 27), .lit (.int .u8 13), .lit (.int .u8 23), .lit (.int .u8 21), .lit (.int .u8 19), .lit (.int .u8 16), .lit (.int .u8 7), .lit (.int .u8 26), .lit (.int .u8 12), .lit (.int .u8 18), .lit (.int .u8 6), .lit (.int .u8 11), .lit (.int .u8 5), .lit (.int .u8 10), .lit (.int .u8 9)]
def laid_math_bits_deBruijn64tab {H : Type} : DataW H := .agg [.lit (.int .u8 0), .lit (.int .u8 1), .lit (.int .u8 56), .lit (.int .u8 2), .lit (.int .u8 57), .lit (.int .u8 49), .lit (.int .u8 28), .lit (.int .u8 3), .lit (.int .u8 61), .lit (.int .u8 58), .lit (.int .u8 42), .lit (.int .u8 50), .lit (.int .u8 38), .lit (.int .u8 29), .lit (.int .u8 17), .lit (.int .u8 4), .lit (.int .u8 62), .lit (.int .u8 47), .lit (.int .u8 59), .lit (.int .u8 36), .lit (.int .u8 45), .lit (.int .u8 43), .lit (.int .u8 51), .lit (.int .u8 22), .lit (.int .u8 53), .lit (.int .u8 39), .lit (.int .u8 33), .lit (.int .u8 30), .lit (.int .u8 24), .lit (.int .u8 18), .lit (.int .u8 12), .lit (.int .u8 5), .lit (.int .u8 63), .lit (.int .u8 55), .lit (.int .u8 48), .lit (.int .u8 27), .lit (.int .u8 60), .lit (.int .u8 41), .lit (.int .u8 37), .lit (.int .u8 16), .lit (.int .u8 46), .lit (.int .u8 35), .lit (.int .u8 44), .lit (.int .u8 21), .lit (.int .u8 52), .lit (.int .u8 32), .lit (.int .u8 23), .lit (.int .u8 11), .lit (.int .u8 54), .lit (.int .u8 26), .lit (.int .u8 40), .lit (.int .u8 15), .lit (.int .u8 34), .lit (.int .u8 20), .lit (.int .u8 31), .lit (.int .u8 10), .lit (.int .u8 25), .lit (.int .u8 14), .lit (.int .u8 19), .lit (.int .u8 9), .lit (.int .u8 13), .lit (.int .u8 8), .lit (.int .u8 7), .lit (.int .u8 6)]
def laid_internal_strconv_uint64pow10 {H : Type} : DataW H := .agg [.lit (.int .u64 1), .lit (.int .u64 10), .lit (.int .u64 100), .lit (.int .u64 1000), .lit (.int .u64 10000), .lit (.int .u64 100000), .lit (.int .u64 1000000), .lit (.int .u64 10000000), .lit (.int .u64 100000000), .lit (.int .u64 1000000000), .lit (.int .u64 10000000000), .lit (.int .u64 100000000000), .lit (.int .u64 1000000000000), .lit (.int .u64 10000000000000), .lit (.int .u64 100000000000000), .lit (.int .u64 1000000000000000), .lit (.int .u64 10000000000000000), .lit (.int .u64 100000000000000000), .lit (.int .u64 1000000000000000000), .lit (.int .u64 10000000000000000000)]

/-- 'wayfindertop.WholeMinimum': WHATEVER THE INPUT: true; the input reads as it did. -/
def wholeMinimumSpec : ChangeSpec := { name := "wholeMinimum", fn := fun _ => fun
  | [d1, d2, d3] => { results := [.lit (.bool true)], args := [d1, d2, d3] }
  | _ => none }
def wholeMinimumRow : OpenClaim := { program := "ytlnbkmkkiemcaaagreatdoor", sum := "1116b316ae0ea070f53d90065fc46fbf6babff6c5d562ad1fafda716d57fc8e4", func := "wayfinder/wayfindertop.WholeMinimum", spec := "wholeMinimum", inPlace := ["internal/abi.NoEscape", "internal/bytealg.MakeNoZero"], unfollowed := true, recurses := true, named := ["math/bits.overflowError", "internal/strconv.uint64pow10", "math/bits.deBruijn32tab", "math/bits.deBruijn64tab"], apart := false, laid := [("math/bits.deBruijn32tab", laid_math_bits_deBruijn32tab), ("math/bits.deBruijn64tab", laid_math_bits_deBruijn64tab), ("internal/strconv.uint64pow10", laid_internal_strconv_uint64pow10)] }
def WholeMinimumSaid : Prop := wholeMinimumRow.holds Tryz.pinned (OpenSpec.ofChange wholeMinimumSpec)

/-- ITS FALSE NEIGHBOUR: 'it returns false'. Refute it at one input. -/
def wholeMinimumWrong : ChangeSpec := { name := "wholeMinimum", fn := fun _ => fun
  | [d1, d2, d3] => { results := [.lit (.bool false)], args := [d1, d2, d3] }
  | _ => none }
def WholeMinimumWrongFalsely : Prop := wholeMinimumRow.holds Tryz.pinned (OpenSpec.ofChange wholeMinimumWrong)

/-- 'wayfinderlaw31.AdjustLeast': WHATEVER THE INPUT: true; the input reads as it did. -/
def adjustLeastSpec : ChangeSpec := { name := "adjustLeast", fn := fun _ => fun
  | [d1, d2] => { results := [.lit (.bool true)], args := [d1, d2] }
  | _ => none }
def adjustLeastRow : OpenClaim := { program := "ytlnbkmkkiemcaaagreatdoor", sum := "1116b316ae0ea070f53d90065fc46fbf6babff6c5d562ad1fafda716d57fc8e4", func := "wayfinder/wayfinderlaw31.AdjustLeast", spec := "adjustLeast", inPlace := ["internal/abi.NoEscape", "internal/bytealg.MakeNoZero"], named := ["math/bits.overflowError", "internal/strconv.uint64pow10", "math/bits.deBruijn32tab", "math/bits.deBruijn64tab"], apart := false, laid := [("math/bits.deBruijn32tab", laid_math_bits_deBruijn32tab), ("math/bits.deBruijn64tab", laid_math_bits_deBruijn64tab), ("internal/strconv.uint64pow10", laid_internal_strconv_uint64pow10)] }
def AdjustLeastSaid : Prop := adjustLeastRow.holds Tryz.pinned (OpenSpec.ofChange adjustLeastSpec)

/-- ITS FALSE NEIGHBOUR: 'it returns false'. Refute it at one input. -/
def adjustLeastWrong : ChangeSpec := { name := "adjustLeast", fn := fun _ => fun
  | [d1, d2] => { results := [.lit (.bool false)], args := [d1, d2] }
  | _ => none }
def AdjustLeastWrongFalsely : Prop := adjustLeastRow.holds Tryz.pinned (OpenSpec.ofChange adjustLeastWrong)

/-- 'wayfinderlaw31.AdjustOrder': WHATEVER THE INPUT: true; the input reads as it did. -/
def adjustOrderSpec : ChangeSpec := { name := "adjustOrder", fn := fun _ => fun
  | [d1, d2] => { results := [.lit (.bool true)], args := [d1, d2] }
  | _ => none }
def adjustOrderRow : OpenClaim := { program := "ytlnbkmkkiemcaaagreatdoor", sum := "1116b316ae0ea070f53d90065fc46fbf6babff6c5d562ad1fafda716d57fc8e4", func := "wayfinder/wayfinderlaw31.AdjustOrder", spec := "adjustOrder", inPlace := ["internal/abi.NoEscape", "internal/bytealg.MakeNoZero"], named := ["math/bits.overflowError", "internal/strconv.uint64pow10", "math/bits.deBruijn32tab", "math/bits.deBruijn64tab"], apart := false, laid := [("math/bits.deBruijn32tab", laid_math_bits_deBruijn32tab), ("math/bits.deBruijn64tab", laid_math_bits_deBruijn64tab), ("internal/strconv.uint64pow10", laid_internal_strconv_uint64pow10)] }
def AdjustOrderSaid : Prop := adjustOrderRow.holds Tryz.pinned (OpenSpec.ofChange adjustOrderSpec)

/-- ITS FALSE NEIGHBOUR: 'it returns false'. Refute it at one input. -/
def adjustOrderWrong : ChangeSpec := { name := "adjustOrder", fn := fun _ => fun
  | [d1, d2] => { results := [.lit (.bool false)], args := [d1, d2] }
  | _ => none }
def AdjustOrderWrongFalsely : Prop := adjustOrderRow.holds Tryz.pinned (OpenSpec.ofChange adjustOrderWrong)

/-- 'wayfinderlaw31.AdjustMerges': WHATEVER THE INPUT: true; the input reads as it did. -/
def adjustMergesSpec : ChangeSpec := { name := "adjustMerges", fn := fun _ => fun
  | [d1, d2, d3] => { results := [.lit (.bool true)], args := [d1, d2, d3] }
  | _ => none }
def adjustMergesRow : OpenClaim := { program := "ytlnbkmkkiemcaaagreatdoor", sum := "1116b316ae0ea070f53d90065fc46fbf6babff6c5d562ad1fafda716d57fc8e4", func := "wayfinder/wayfinderlaw31.AdjustMerges", spec := "adjustMerges", inPlace := ["internal/abi.NoEscape", "internal/bytealg.MakeNoZero"], named := ["math/bits.overflowError", "internal/strconv.uint64pow10", "math/bits.deBruijn32tab", "math/bits.deBruijn64tab"], apart := false, laid := [("math/bits.deBruijn32tab", laid_math_bits_deBruijn32tab), ("math/bits.deBruijn64tab", laid_math_bits_deBruijn64tab), ("internal/strconv.uint64pow10", laid_internal_strconv_uint64pow10)] }
def AdjustMergesSaid : Prop := adjustMergesRow.holds Tryz.pinned (OpenSpec.ofChange adjustMergesSpec)

/-- ITS FALSE NEIGHBOUR: 'it returns false'. Refute it at one input. -/
def adjustMergesWrong : ChangeSpec := { name := "adjustMerges", fn := fun _ => fun
  | [d1, d2, d3] => { results := [.lit (.bool false)], args := [d1, d2, d3] }
  | _ => none }
def AdjustMergesWrongFalsely : Prop := adjustMergesRow.holds Tryz.pinned (OpenSpec.ofChange adjustMergesWrong)

/-- 'wayfinderlaw31.AdjustTruth': WHATEVER THE INPUT: true; the input reads as it did. -/
def adjustTruthSpec : ChangeSpec := { name := "adjustTruth", fn := fun _ => fun
  | [d1, d2, d3] => { results := [.lit (.bool true)], args := [d1, d2, d3] }
  | _ => none }
def adjustTruthRow : OpenClaim := { program := "ytlnbkmkkiemcaaagreatdoor", sum := "1116b316ae0ea070f53d90065fc46fbf6babff6c5d562ad1fafda716d57fc8e4", func := "wayfinder/wayfinderlaw31.AdjustTruth", spec := "adjustTruth", inPlace := ["internal/abi.NoEscape", "internal/bytealg.MakeNoZero"], named := ["math/bits.overflowError", "internal/strconv.uint64pow10", "math/bits.deBruijn32tab", "math/bits.deBruijn64tab"], apart := false, laid := [("math/bits.deBruijn32tab", laid_math_bits_deBruijn32tab), ("math/bits.deBruijn64tab", laid_math_bits_deBruijn64tab), ("internal/strconv.uint64pow10", laid_internal_strconv_uint64pow10)] }
def AdjustTruthSaid : Prop := adjustTruthRow.holds Tryz.pinned (OpenSpec.ofChange adjustTruthSpec)

/-- ITS FALSE NEIGHBOUR: 'it returns false'. Refute it at one input. -/
def adjustTruthWrong : ChangeSpec := { name := "adjustTruth", fn := fun _ => fun
  | [d1, d2, d3] => { results := [.lit (.bool false)], args := [d1, d2, d3] }
  | _ => none }
def AdjustTruthWrongFalsely : Prop := adjustTruthRow.holds Tryz.pinned (OpenSpec.ofChange adjustTruthWrong)

/-- 'wayfinderlaw31.AdjustAnswers': WHATEVER THE INPUT: true; the input reads as it did. -/
def adjustAnswersSpec : ChangeSpec := { name := "adjustAnswers", fn := fun _ => fun
  | [d1, d2] => { results := [.lit (.bool true)], args := [d1, d2] }
  | _ => none }
def adjustAnswersRow : OpenClaim := { program := "ytlnbkmkkiemcaaagreatdoor", sum := "1116b316ae0ea070f53d90065fc46fbf6babff6c5d562ad1fafda716d57fc8e4", func := "wayfinder/wayfinderlaw31.AdjustAnswers", spec := "adjustAnswers", inPlace := ["internal/abi.NoEscape", "internal/bytealg.MakeNoZero"], named := ["math/bits.overflowError", "internal/strconv.uint64pow10", "math/bits.deBruijn32tab", "math/bits.deBruijn64tab"], apart := false, laid := [("math/bits.deBruijn32tab", laid_math_bits_deBruijn32tab), ("math/bits.deBruijn64tab", laid_math_bits_deBruijn64tab), ("internal/strconv.uint64pow10", laid_internal_strconv_uint64pow10)] }
def AdjustAnswersSaid : Prop := adjustAnswersRow.holds Tryz.pinned (OpenSpec.ofChange adjustAnswersSpec)

/-- ITS FALSE NEIGHBOUR: 'it returns false'. Refute it at one input. -/
def adjustAnswersWrong : ChangeSpec := { name := "adjustAnswers", fn := fun _ => fun
  | [d1, d2] => { results := [.lit (.bool false)], args := [d1, d2] }
  | _ => none }
def AdjustAnswersWrongFalsely : Prop := adjustAnswersRow.holds Tryz.pinned (OpenSpec.ofChange adjustAnswersWrong)

/-- 'wayfinderlaw31.AdjustGradient': WHATEVER THE INPUT: true; the input reads as it did. -/
def adjustGradientSpec : ChangeSpec := { name := "adjustGradient", fn := fun _ => fun
  | [d1, d2] => { results := [.lit (.bool true)], args := [d1, d2] }
  | _ => none }
def adjustGradientRow : OpenClaim := { program := "ytlnbkmkkiemcaaagreatdoor", sum := "1116b316ae0ea070f53d90065fc46fbf6babff6c5d562ad1fafda716d57fc8e4", func := "wayfinder/wayfinderlaw31.AdjustGradient", spec := "adjustGradient", inPlace := ["internal/abi.NoEscape", "internal/bytealg.MakeNoZero"], named := ["math/bits.overflowError", "internal/strconv.uint64pow10", "math/bits.deBruijn32tab", "math/bits.deBruijn64tab"], apart := false, laid := [("math/bits.deBruijn32tab", laid_math_bits_deBruijn32tab), ("math/bits.deBruijn64tab", laid_math_bits_deBruijn64tab), ("internal/strconv.uint64pow10", laid_internal_strconv_uint64pow10)] }
def AdjustGradientSaid : Prop := adjustGradientRow.holds Tryz.pinned (OpenSpec.ofChange adjustGradientSpec)

/-- ITS FALSE NEIGHBOUR: 'it returns false'. Refute it at one input. -/
def adjustGradientWrong : ChangeSpec := { name := "adjustGradient", fn := fun _ => fun
  | [d1, d2] => { results := [.lit (.bool false)], args := [d1, d2] }
  | _ => none }
def AdjustGradientWrongFalsely : Prop := adjustGradientRow.holds Tryz.pinned (OpenSpec.ofChange adjustGradientWrong)

/-- 'wayfinderlaw31.AdjustForm': WHATEVER THE INPUT: true; the input reads as it did. -/
def adjustFormSpec : ChangeSpec := { name := "adjustForm", fn := fun _ => fun
  | [d1, d2] => { results := [.lit (.bool true)], args := [d1, d2] }
  | _ => none }
def adjustFormRow : OpenClaim := { program := "ytlnbkmkkiemcaaagreatdoor", sum := "1116b316ae0ea070f53d90065fc46fbf6babff6c5d562ad1fafda716d57fc8e4", func := "wayfinder/wayfinderlaw31.AdjustForm", spec := "adjustForm", inPlace := ["internal/abi.NoEscape", "internal/bytealg.MakeNoZero"], named := ["math/bits.overflowError", "internal/strconv.uint64pow10", "math/bits.deBruijn32tab", "math/bits.deBruijn64tab"], apart := false, laid := [("math/bits.deBruijn32tab", laid_math_bits_deBruijn32tab), ("math/bits.deBruijn64tab", laid_math_bits_deBruijn64tab), ("internal/strconv.uint64pow10", laid_internal_strconv_uint64pow10)] }
def AdjustFormSaid : Prop := adjustFormRow.holds Tryz.pinned (OpenSpec.ofChange adjustFormSpec)

/-- ITS FALSE NEIGHBOUR: 'it returns false'. Refute it at one input. -/
def adjustFormWrong : ChangeSpec := { name := "adjustForm", fn := fun _ => fun
  | [d1, d2] => { results := [.lit (.bool false)], args := [d1, d2] }
  | _ => none }
def AdjustFormWrongFalsely : Prop := adjustFormRow.holds Tryz.pinned (OpenSpec.ofChange adjustFormWrong)

/-- 'wayfinderlaw31.AdjustGrows': WHATEVER THE INPUT: true; the input reads as it did. -/
def adjustGrowsSpec : ChangeSpec := { name := "adjustGrows", fn := fun _ => fun
  | [d1, d2] => { results := [.lit (.bool true)], args := [d1, d2] }
  | _ => none }
def adjustGrowsRow : OpenClaim := { program := "ytlnbkmkkiemcaaagreatdoor", sum := "1116b316ae0ea070f53d90065fc46fbf6babff6c5d562ad1fafda716d57fc8e4", func := "wayfinder/wayfinderlaw31.AdjustGrows", spec := "adjustGrows", inPlace := ["internal/abi.NoEscape", "internal/bytealg.MakeNoZero"], named := ["math/bits.overflowError", "internal/strconv.uint64pow10", "math/bits.deBruijn32tab", "math/bits.deBruijn64tab"], apart := false, laid := [("math/bits.deBruijn32tab", laid_math_bits_deBruijn32tab), ("math/bits.deBruijn64tab", laid_math_bits_deBruijn64tab), ("internal/strconv.uint64pow10", laid_internal_strconv_uint64pow10)] }
def AdjustGrowsSaid : Prop := adjustGrowsRow.holds Tryz.pinned (OpenSpec.ofChange adjustGrowsSpec)

/-- ITS FALSE NEIGHBOUR: 'it returns false'. Refute it at one input. -/
def adjustGrowsWrong : ChangeSpec := { name := "adjustGrows", fn := fun _ => fun
  | [d1, d2] => { results := [.lit (.bool false)], args := [d1, d2] }
  | _ => none }
def AdjustGrowsWrongFalsely : Prop := adjustGrowsRow.holds Tryz.pinned (OpenSpec.ofChange adjustGrowsWrong)

/-- 'wayfinderlaw31.AdjustPlays': WHATEVER THE INPUT: true; the input reads as it did. -/
def adjustPlaysSpec : ChangeSpec := { name := "adjustPlays", fn := fun _ => fun
  | [d1, d2] => { results := [.lit (.bool true)], args := [d1, d2] }
  | _ => none }
def adjustPlaysRow : OpenClaim := { program := "ytlnbkmkkiemcaaagreatdoor", sum := "1116b316ae0ea070f53d90065fc46fbf6babff6c5d562ad1fafda716d57fc8e4", func := "wayfinder/wayfinderlaw31.AdjustPlays", spec := "adjustPlays", inPlace := ["internal/abi.NoEscape", "internal/bytealg.MakeNoZero"], named := ["math/bits.overflowError", "internal/strconv.uint64pow10", "math/bits.deBruijn32tab", "math/bits.deBruijn64tab"], apart := false, laid := [("math/bits.deBruijn32tab", laid_math_bits_deBruijn32tab), ("math/bits.deBruijn64tab", laid_math_bits_deBruijn64tab), ("internal/strconv.uint64pow10", laid_internal_strconv_uint64pow10)] }
def AdjustPlaysSaid : Prop := adjustPlaysRow.holds Tryz.pinned (OpenSpec.ofChange adjustPlaysSpec)

/-- ITS FALSE NEIGHBOUR: 'it returns false'. Refute it at one input. -/
def adjustPlaysWrong : ChangeSpec := { name := "adjustPlays", fn := fun _ => fun
  | [d1, d2] => { results := [.lit (.bool false)], args := [d1, d2] }
  | _ => none }
def AdjustPlaysWrongFalsely : Prop := adjustPlaysRow.holds Tryz.pinned (OpenSpec.ofChange adjustPlaysWrong)

/- THE SECOND FORM. 'bulk': how many values and letters a reading holds, each counted each time it is reached (what is shared counts as often as it is met; a slice's spare places count too). A statement '..UptoSaid' is the law's where the arguments, and the package variables that the reading takes, are together of bulk at most 1048576: NARROWER than '..Said'. Prove '..Said' where nothing that the law and all that it calls make is longer than what came in: it says more and counts as full. Else prove '..UptoSaid'. A law counts once. -/
mutual
def uptoBulk {H : Type} : DataW H → Nat
  | .lit (.string bytes) => bytes.length + 1
  | .lit _ => 1
  | .nil => 1
  | .ptr d => uptoBulk d + 1
  | .slice elems spare => uptoBulkAll elems + uptoBulkAll spare + 1
  | .agg parts => uptoBulkAll parts + 1
  | .iface _ d => uptoBulk d + 1
  | .map entries => uptoBulkEntries entries + 1
  | .held _ => 1
def uptoBulkAll {H : Type} : List (DataW H) → Nat
  | [] => 0
  | d :: r => uptoBulk d + uptoBulkAll r
def uptoBulkEntries {H : Type} : List (Lit × DataW H) → Nat
  | [] => 0
  | x :: r => uptoBulkEntry x + uptoBulkEntries r
def uptoBulkEntry {H : Type} : Lit × DataW H → Nat
  | (.string bytes, d) => bytes.length + uptoBulk d + 1
  | (_, d) => uptoBulk d + 1
 end
def uptoSmall : (H : Type) → List (DataW H) → Bool := fun _ ds => decide (uptoBulkAll ds ≤ 1048576)
def OpenSpec.upto (s : _root_.Go.ChangeSpec) : _root_.Go.OpenSpec := { _root_.Go.OpenSpec.ofChange s with cond := some uptoSmall }

/-- 'wayfindertop.WholeMinimum', WHERE WHAT IT READS IS OF BULK AT MOST 1048576: true; the input reads as it did. -/
def wholeMinimumUptoRow : OpenClaim := { program := "ytlnbkmkkiemcaaagreatdoor", sum := "1116b316ae0ea070f53d90065fc46fbf6babff6c5d562ad1fafda716d57fc8e4", func := "wayfinder/wayfindertop.WholeMinimum", spec := "wholeMinimum", inPlace := ["internal/abi.NoEscape", "internal/bytealg.MakeNoZero"], unfollowed := true, recurses := true, named := ["math/bits.overflowError", "internal/strconv.uint64pow10", "math/bits.deBruijn32tab", "math/bits.deBruijn64tab"], apart := false, laid := [("math/bits.deBruijn32tab", laid_math_bits_deBruijn32tab), ("math/bits.deBruijn64tab", laid_math_bits_deBruijn64tab), ("internal/strconv.uint64pow10", laid_internal_strconv_uint64pow10)], narrowed := true }
def WholeMinimumUptoSaid : Prop := wholeMinimumUptoRow.holds Tryz.pinned (OpenSpec.upto wholeMinimumSpec)

/-- 'wayfinderlaw31.AdjustLeast', WHERE WHAT IT READS IS OF BULK AT MOST 1048576: true; the input reads as it did. -/
def adjustLeastUptoRow : OpenClaim := { program := "ytlnbkmkkiemcaaagreatdoor", sum := "1116b316ae0ea070f53d90065fc46fbf6babff6c5d562ad1fafda716d57fc8e4", func := "wayfinder/wayfinderlaw31.AdjustLeast", spec := "adjustLeast", inPlace := ["internal/abi.NoEscape", "internal/bytealg.MakeNoZero"], named := ["math/bits.overflowError", "internal/strconv.uint64pow10", "math/bits.deBruijn32tab", "math/bits.deBruijn64tab"], apart := false, laid := [("math/bits.deBruijn32tab", laid_math_bits_deBruijn32tab), ("math/bits.deBruijn64tab", laid_math_bits_deBruijn64tab), ("internal/strconv.uint64pow10", laid_internal_strconv_uint64pow10)], narrowed := true }
def AdjustLeastUptoSaid : Prop := adjustLeastUptoRow.holds Tryz.pinned (OpenSpec.upto adjustLeastSpec)

/-- 'wayfinderlaw31.AdjustOrder', WHERE WHAT IT READS IS OF BULK AT MOST 1048576: true; the input reads as it did. -/
def adjustOrderUptoRow : OpenClaim := { program := "ytlnbkmkkiemcaaagreatdoor", sum := "1116b316ae0ea070f53d90065fc46fbf6babff6c5d562ad1fafda716d57fc8e4", func := "wayfinder/wayfinderlaw31.AdjustOrder", spec := "adjustOrder", inPlace := ["internal/abi.NoEscape", "internal/bytealg.MakeNoZero"], named := ["math/bits.overflowError", "internal/strconv.uint64pow10", "math/bits.deBruijn32tab", "math/bits.deBruijn64tab"], apart := false, laid := [("math/bits.deBruijn32tab", laid_math_bits_deBruijn32tab), ("math/bits.deBruijn64tab", laid_math_bits_deBruijn64tab), ("internal/strconv.uint64pow10", laid_internal_strconv_uint64pow10)], narrowed := true }
def AdjustOrderUptoSaid : Prop := adjustOrderUptoRow.holds Tryz.pinned (OpenSpec.upto adjustOrderSpec)

/-- 'wayfinderlaw31.AdjustMerges', WHERE WHAT IT READS IS OF BULK AT MOST 1048576: true; the input reads as it did. -/
def adjustMergesUptoRow : OpenClaim := { program := "ytlnbkmkkiemcaaagreatdoor", sum := "1116b316ae0ea070f53d90065fc46fbf6babff6c5d562ad1fafda716d57fc8e4", func := "wayfinder/wayfinderlaw31.AdjustMerges", spec := "adjustMerges", inPlace := ["internal/abi.NoEscape", "internal/bytealg.MakeNoZero"], named := ["math/bits.overflowError", "internal/strconv.uint64pow10", "math/bits.deBruijn32tab", "math/bits.deBruijn64tab"], apart := false, laid := [("math/bits.deBruijn32tab", laid_math_bits_deBruijn32tab), ("math/bits.deBruijn64tab", laid_math_bits_deBruijn64tab), ("internal/strconv.uint64pow10", laid_internal_strconv_uint64pow10)], narrowed := true }
def AdjustMergesUptoSaid : Prop := adjustMergesUptoRow.holds Tryz.pinned (OpenSpec.upto adjustMergesSpec)

/-- 'wayfinderlaw31.AdjustTruth', WHERE WHAT IT READS IS OF BULK AT MOST 1048576: true; the input reads as it did. -/
def adjustTruthUptoRow : OpenClaim := { program := "ytlnbkmkkiemcaaagreatdoor", sum := "1116b316ae0ea070f53d90065fc46fbf6babff6c5d562ad1fafda716d57fc8e4", func := "wayfinder/wayfinderlaw31.AdjustTruth", spec := "adjustTruth", inPlace := ["internal/abi.NoEscape", "internal/bytealg.MakeNoZero"], named := ["math/bits.overflowError", "internal/strconv.uint64pow10", "math/bits.deBruijn32tab", "math/bits.deBruijn64tab"], apart := false, laid := [("math/bits.deBruijn32tab", laid_math_bits_deBruijn32tab), ("math/bits.deBruijn64tab", laid_math_bits_deBruijn64tab), ("internal/strconv.uint64pow10", laid_internal_strconv_uint64pow10)], narrowed := true }
def AdjustTruthUptoSaid : Prop := adjustTruthUptoRow.holds Tryz.pinned (OpenSpec.upto adjustTruthSpec)

/-- 'wayfinderlaw31.AdjustAnswers', WHERE WHAT IT READS IS OF BULK AT MOST 1048576: true; the input reads as it did. -/
def adjustAnswersUptoRow : OpenClaim := { program := "ytlnbkmkkiemcaaagreatdoor", sum := "1116b316ae0ea070f53d90065fc46fbf6babff6c5d562ad1fafda716d57fc8e4", func := "wayfinder/wayfinderlaw31.AdjustAnswers", spec := "adjustAnswers", inPlace := ["internal/abi.NoEscape", "internal/bytealg.MakeNoZero"], named := ["math/bits.overflowError", "internal/strconv.uint64pow10", "math/bits.deBruijn32tab", "math/bits.deBruijn64tab"], apart := false, laid := [("math/bits.deBruijn32tab", laid_math_bits_deBruijn32tab), ("math/bits.deBruijn64tab", laid_math_bits_deBruijn64tab), ("internal/strconv.uint64pow10", laid_internal_strconv_uint64pow10)], narrowed := true }
def AdjustAnswersUptoSaid : Prop := adjustAnswersUptoRow.holds Tryz.pinned (OpenSpec.upto adjustAnswersSpec)

/-- 'wayfinderlaw31.AdjustGradient', WHERE WHAT IT READS IS OF BULK AT MOST 1048576: true; the input reads as it did. -/
def adjustGradientUptoRow : OpenClaim := { program := "ytlnbkmkkiemcaaagreatdoor", sum := "1116b316ae0ea070f53d90065fc46fbf6babff6c5d562ad1fafda716d57fc8e4", func := "wayfinder/wayfinderlaw31.AdjustGradient", spec := "adjustGradient", inPlace := ["internal/abi.NoEscape", "internal/bytealg.MakeNoZero"], named := ["math/bits.overflowError", "internal/strconv.uint64pow10", "math/bits.deBruijn32tab", "math/bits.deBruijn64tab"], apart := false, laid := [("math/bits.deBruijn32tab", laid_math_bits_deBruijn32tab), ("math/bits.deBruijn64tab", laid_math_bits_deBruijn64tab), ("internal/strconv.uint64pow10", laid_internal_strconv_uint64pow10)], narrowed := true }
def AdjustGradientUptoSaid : Prop := adjustGradientUptoRow.holds Tryz.pinned (OpenSpec.upto adjustGradientSpec)

/-- 'wayfinderlaw31.AdjustForm', WHERE WHAT IT READS IS OF BULK AT MOST 1048576: true; the input reads as it did. -/
def adjustFormUptoRow : OpenClaim := { program := "ytlnbkmkkiemcaaagreatdoor", sum := "1116b316ae0ea070f53d90065fc46fbf6babff6c5d562ad1fafda716d57fc8e4", func := "wayfinder/wayfinderlaw31.AdjustForm", spec := "adjustForm", inPlace := ["internal/abi.NoEscape", "internal/bytealg.MakeNoZero"], named := ["math/bits.overflowError", "internal/strconv.uint64pow10", "math/bits.deBruijn32tab", "math/bits.deBruijn64tab"], apart := false, laid := [("math/bits.deBruijn32tab", laid_math_bits_deBruijn32tab), ("math/bits.deBruijn64tab", laid_math_bits_deBruijn64tab), ("internal/strconv.uint64pow10", laid_internal_strconv_uint64pow10)], narrowed := true }
def AdjustFormUptoSaid : Prop := adjustFormUptoRow.holds Tryz.pinned (OpenSpec.upto adjustFormSpec)

/-- 'wayfinderlaw31.AdjustGrows', WHERE WHAT IT READS IS OF BULK AT MOST 1048576: true; the input reads as it did. -/
def adjustGrowsUptoRow : OpenClaim := { program := "ytlnbkmkkiemcaaagreatdoor", sum := "1116b316ae0ea070f53d90065fc46fbf6babff6c5d562ad1fafda716d57fc8e4", func := "wayfinder/wayfinderlaw31.AdjustGrows", spec := "adjustGrows", inPlace := ["internal/abi.NoEscape", "internal/bytealg.MakeNoZero"], named := ["math/bits.overflowError", "internal/strconv.uint64pow10", "math/bits.deBruijn32tab", "math/bits.deBruijn64tab"], apart := false, laid := [("math/bits.deBruijn32tab", laid_math_bits_deBruijn32tab), ("math/bits.deBruijn64tab", laid_math_bits_deBruijn64tab), ("internal/strconv.uint64pow10", laid_internal_strconv_uint64pow10)], narrowed := true }
def AdjustGrowsUptoSaid : Prop := adjustGrowsUptoRow.holds Tryz.pinned (OpenSpec.upto adjustGrowsSpec)

/-- 'wayfinderlaw31.AdjustPlays', WHERE WHAT IT READS IS OF BULK AT MOST 1048576: true; the input reads as it did. -/
def adjustPlaysUptoRow : OpenClaim := { program := "ytlnbkmkkiemcaaagreatdoor", sum := "1116b316ae0ea070f53d90065fc46fbf6babff6c5d562ad1fafda716d57fc8e4", func := "wayfinder/wayfinderlaw31.AdjustPlays", spec := "adjustPlays", inPlace := ["internal/abi.NoEscape", "internal/bytealg.MakeNoZero"], named := ["math/bits.overflowError", "internal/strconv.uint64pow10", "math/bits.deBruijn32tab", "math/bits.deBruijn64tab"], apart := false, laid := [("math/bits.deBruijn32tab", laid_math_bits_deBruijn32tab), ("math/bits.deBruijn64tab", laid_math_bits_deBruijn64tab), ("internal/strconv.uint64pow10", laid_internal_strconv_uint64pow10)], narrowed := true }
def AdjustPlaysUptoSaid : Prop := adjustPlaysUptoRow.holds Tryz.pinned (OpenSpec.upto adjustPlaysSpec)

end Rows
end Go.Proofs.YtlnbkmkkiemcaaaGreatDoor
