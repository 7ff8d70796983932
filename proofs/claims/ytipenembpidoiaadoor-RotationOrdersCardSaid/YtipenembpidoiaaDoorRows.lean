/-
  NARROWER THAN 'FOR EVERY INPUT', by the rows' own cells (each row's printed sentence says how): WholeChain: laid · RotationCircle: laid · RotationGroup: laid · RotationRigid: laid · RotationMarks: laid · RotationAdds: laid · RotationActs: laid · RotationOrders: laid.
  DERIVED. THE GIVEN ROWS OF THIS SEAT. 8 by the template 'for every input the law returns true; each argument reads behind the call as it read before'; 0 by the template 'total and deterministic' (their statements: YtipenembpidoiaaDoorTotals.lean).
  GIVEN WITH THE SEED: the statements are not yours to turn. If you find one false, say at which input.
  Laid BY PROGRAM, IN A SANDBOX (cutbox-rows.mjs): the forced cells as the released guide's own fill.sh prints them over the translation 12cacba125eeaffe… (all of the seat's roots in one cut). By AI agents, Wed Nov 11 2026. No macro, syntax, notation, axiom, sorry.
-/
import Derived.Test.YtipenembpidoiaaDoorChecked
import GoSem.Claim
import GoSem.ClaimJoined
import GoSem.ClaimMapViews
import Derived.JoinedTies
import Derived.KernelRfl
namespace Go.Proofs.YtipenembpidoiaaDoor
/- THE CELL 'sum', in the pinned program and in every row, IS THE sha256 OF THE DUMP (.gsa) THAT YtipenembpidoiaaDoorProg.lean LOADS. Nothing in Lean hashes anything: it is a label: what it is worth is what the hold of that sum in a sandbox is worth. -/
noncomputable def Tryd.pinned : Pinned := { name := "ytipenembpidoiaadoor", sum := "12cacba125eeaffe4cad7947d34d6ddfa187ecf138df9e9546d9afc76ceb70ba", checked := Tryd.checked }
namespace Rows
def none {H : Type} : Left H := { results := [], args := [] }

/- WHAT THE LISTED PACKAGE-LEVEL VARIABLES READ AS WHEN THE CALL BEGINS. Each datum BY PROGRAM (the guide's laid-datum.mjs) off the statement by which the dump's own 'gosem.cut.vars' lays the variable. In a bare row this is a premise. The card (YtipenembpidoiaaDoorCards.lean) ties it to the program's text. -/
def laid_math_bits_deBruijn32tab {H : Type} : DataW H := .agg [.lit (.int .u8 0), .lit (.int .u8 1), .lit (.int .u8 28), .lit (.int .u8 2), .lit (.int .u8 29), .lit (.int .u8 14), .lit (.int .u8 24), .lit (.int .u8 3), .lit (.int .u8 30), .lit (.int .u8 22), .lit (.int .u8 20), .lit (.int .u8 15), .lit (.int .u8 25), .lit (.int .u8 17), .lit (.int .u8 4), .lit (.int .u8 8), .lit (.int .u8 31), .lit (.int .u8 27), .lit (.int .u8 13), .lit (.int .u8 23), .lit (.int .u8 21), .lit (.int .u8 19), .lit (.int .u8 16), .lit (.int .u8 7), .lit (.int .u8 26), .lit (.int .u8 12), .lit (.int .u8 18), .lit (.int .u8 6), .lit (.int .u8 11), .lit (.int .u8 5), .lit (.int .u8 10), .lit (.int .u8 9)]
def laid_math_bits_deBruijn64tab {H : Type} : DataW H := .agg [.lit (.int .u8 0), .lit (.int .u8 1), .lit (.int .u8 56), .lit (.int .u8 2), .lit (.int .u8 57), .lit (.int .u8 49), .lit (.int .u8 28), .lit (.int .u8 3), .lit (.int .u8 61), .lit (.int .u8 58), .lit (.int .u8 42), .lit (.int .u8 50), .lit (.int .u8 38), .lit (.int .u8 29), .lit (.int .u8 17), .lit (.int .u8 4), .lit (.int .u8 62), .lit (.int .u8 47), .lit (.int .u8 59), .lit (.int .u8 36), .lit (.int .u8 45), .lit (.int .u8 43), .lit (.int .u8 51), .lit (.int .u8 22), .lit (.int .u8 53), .lit (.int .u8 39), .lit (.int .u8 33), .lit (.int .u8 30), .lit (.int .u8 24), .lit (.int .u8 18), .lit (.int .u8 12), .lit (.int .u8 5), .lit (.int .u8 63), .lit (.int .u8 55), .lit (.int .u8 48), .lit (.int .u8 27), .lit (.int .u8 60), .lit (.int .u8 41), .lit (.int .u8 37), .lit (.int .u8 16), .lit (.int .u8 46), .lit (.int .u8 35), .lit (.int .u8 44), .lit (.int .u8 21), .lit (.int .u8 52), .lit (.int .u8 32), .lit (.int .u8 23), .lit (.int .u8 11), .lit (.int .u8 54), .lit (.int .u8 26), .lit (.int .u8 40), .lit (.int .u8 15), .lit (.int .u8 34), .lit (.int .u8 20), .lit (.int .u8 31), .lit (.int .u8 10), .lit (.int .u8 25), .lit (.int .u8 14), .lit (.int .u8 19), .lit (.int .u8 9), .lit (.int .u8 13), .lit (.int .u8 8), .lit (.int .u8 7), .lit (.int .u8 6)]
def laid_internal_strconv_uint64pow10 {H : Type} : DataW H := .agg [.lit (.int .u64 1), .lit (.int .u64 10), .lit (.int .u64 100), .lit (.int .u64 1000), .lit (.int .u64 10000), .lit (.int .u64 100000), .lit (.int .u64 1000000), .lit (.int .u64 10000000), .lit (.int .u64 100000000), .lit (.int .u64 1000000000), .lit (.int .u64 10000000000), .lit (.int .u64 100000000000), .lit (.int .u64 1000000000000), .lit (.int .u64 10000000000000), .lit (.int .u64 100000000000000), .lit (.int .u64 1000000000000000), .lit (.int .u64 10000000000000000), .lit (.int .u64 100000000000000000), .lit (.int .u64 1000000000000000000), .lit (.int .u64 10000000000000000000)]

/-- 'wayfindertop.WholeChain': WHATEVER THE INPUT: true; the input reads as it did. -/
def wholeChainSpec : ChangeSpec := { name := "wholeChain", fn := fun _ => fun
  | [d1, d2, d3] => { results := [.lit (.bool true)], args := [d1, d2, d3] }
  | _ => none }
def wholeChainRow : OpenClaim := { program := "ytipenembpidoiaadoor", sum := "12cacba125eeaffe4cad7947d34d6ddfa187ecf138df9e9546d9afc76ceb70ba", func := "wayfinder/wayfindertop.WholeChain", spec := "wholeChain", inPlace := ["internal/abi.NoEscape", "internal/bytealg.MakeNoZero"], unfollowed := true, recurses := true, named := ["math/bits.overflowError", "internal/strconv.uint64pow10", "math/bits.deBruijn32tab", "math/bits.deBruijn64tab"], apart := false, laid := [("math/bits.deBruijn32tab", laid_math_bits_deBruijn32tab), ("math/bits.deBruijn64tab", laid_math_bits_deBruijn64tab), ("internal/strconv.uint64pow10", laid_internal_strconv_uint64pow10)] }
def WholeChainSaid : Prop := wholeChainRow.holds Tryd.pinned (OpenSpec.ofChange wholeChainSpec)

/-- ITS FALSE NEIGHBOUR: 'it returns false'. Refute it at one input. -/
def wholeChainWrong : ChangeSpec := { name := "wholeChain", fn := fun _ => fun
  | [d1, d2, d3] => { results := [.lit (.bool false)], args := [d1, d2, d3] }
  | _ => none }
def WholeChainWrongFalsely : Prop := wholeChainRow.holds Tryd.pinned (OpenSpec.ofChange wholeChainWrong)

/-- 'wayfinderlaw03.RotationCircle': WHATEVER THE INPUT: true; the input reads as it did. -/
def rotationCircleSpec : ChangeSpec := { name := "rotationCircle", fn := fun _ => fun
  | [d] => { results := [.lit (.bool true)], args := [d] }
  | _ => none }
def rotationCircleRow : OpenClaim := { program := "ytipenembpidoiaadoor", sum := "12cacba125eeaffe4cad7947d34d6ddfa187ecf138df9e9546d9afc76ceb70ba", func := "wayfinder/wayfinderlaw03.RotationCircle", spec := "rotationCircle", inPlace := ["internal/abi.NoEscape", "internal/bytealg.MakeNoZero"], named := ["math/bits.overflowError", "internal/strconv.uint64pow10", "math/bits.deBruijn32tab", "math/bits.deBruijn64tab"], apart := false, laid := [("math/bits.deBruijn32tab", laid_math_bits_deBruijn32tab), ("math/bits.deBruijn64tab", laid_math_bits_deBruijn64tab), ("internal/strconv.uint64pow10", laid_internal_strconv_uint64pow10)] }
def RotationCircleSaid : Prop := rotationCircleRow.holds Tryd.pinned (OpenSpec.ofChange rotationCircleSpec)

/-- ITS FALSE NEIGHBOUR: 'it returns false'. Refute it at one input. -/
def rotationCircleWrong : ChangeSpec := { name := "rotationCircle", fn := fun _ => fun
  | [d] => { results := [.lit (.bool false)], args := [d] }
  | _ => none }
def RotationCircleWrongFalsely : Prop := rotationCircleRow.holds Tryd.pinned (OpenSpec.ofChange rotationCircleWrong)

/-- 'wayfinderlaw03.RotationGroup': WHATEVER THE INPUT: true; the input reads as it did. -/
def rotationGroupSpec : ChangeSpec := { name := "rotationGroup", fn := fun _ => fun
  | [d1, d2, d3] => { results := [.lit (.bool true)], args := [d1, d2, d3] }
  | _ => none }
def rotationGroupRow : OpenClaim := { program := "ytipenembpidoiaadoor", sum := "12cacba125eeaffe4cad7947d34d6ddfa187ecf138df9e9546d9afc76ceb70ba", func := "wayfinder/wayfinderlaw03.RotationGroup", spec := "rotationGroup", inPlace := ["internal/abi.NoEscape", "internal/bytealg.MakeNoZero"], named := ["math/bits.overflowError", "internal/strconv.uint64pow10", "math/bits.deBruijn32tab", "math/bits.deBruijn64tab"], apart := false, laid := [("math/bits.deBruijn32tab", laid_math_bits_deBruijn32tab), ("math/bits.deBruijn64tab", laid_math_bits_deBruijn64tab), ("internal/strconv.uint64pow10", laid_internal_strconv_uint64pow10)] }
def RotationGroupSaid : Prop := rotationGroupRow.holds Tryd.pinned (OpenSpec.ofChange rotationGroupSpec)

/-- ITS FALSE NEIGHBOUR: 'it returns false'. Refute it at one input. -/
def rotationGroupWrong : ChangeSpec := { name := "rotationGroup", fn := fun _ => fun
  | [d1, d2, d3] => { results := [.lit (.bool false)], args := [d1, d2, d3] }
  | _ => none }
def RotationGroupWrongFalsely : Prop := rotationGroupRow.holds Tryd.pinned (OpenSpec.ofChange rotationGroupWrong)

/-- 'wayfinderlaw03.RotationRigid': WHATEVER THE INPUT: true; the input reads as it did. -/
def rotationRigidSpec : ChangeSpec := { name := "rotationRigid", fn := fun _ => fun
  | [d1, d2, d3] => { results := [.lit (.bool true)], args := [d1, d2, d3] }
  | _ => none }
def rotationRigidRow : OpenClaim := { program := "ytipenembpidoiaadoor", sum := "12cacba125eeaffe4cad7947d34d6ddfa187ecf138df9e9546d9afc76ceb70ba", func := "wayfinder/wayfinderlaw03.RotationRigid", spec := "rotationRigid", inPlace := ["internal/abi.NoEscape", "internal/bytealg.MakeNoZero"], named := ["math/bits.overflowError", "internal/strconv.uint64pow10", "math/bits.deBruijn32tab", "math/bits.deBruijn64tab"], apart := false, laid := [("math/bits.deBruijn32tab", laid_math_bits_deBruijn32tab), ("math/bits.deBruijn64tab", laid_math_bits_deBruijn64tab), ("internal/strconv.uint64pow10", laid_internal_strconv_uint64pow10)] }
def RotationRigidSaid : Prop := rotationRigidRow.holds Tryd.pinned (OpenSpec.ofChange rotationRigidSpec)

/-- ITS FALSE NEIGHBOUR: 'it returns false'. Refute it at one input. -/
def rotationRigidWrong : ChangeSpec := { name := "rotationRigid", fn := fun _ => fun
  | [d1, d2, d3] => { results := [.lit (.bool false)], args := [d1, d2, d3] }
  | _ => none }
def RotationRigidWrongFalsely : Prop := rotationRigidRow.holds Tryd.pinned (OpenSpec.ofChange rotationRigidWrong)

/-- 'wayfinderlaw03.RotationMarks': WHATEVER THE INPUT: true; the input reads as it did. -/
def rotationMarksSpec : ChangeSpec := { name := "rotationMarks", fn := fun _ => fun
  | [d1, d2] => { results := [.lit (.bool true)], args := [d1, d2] }
  | _ => none }
def rotationMarksRow : OpenClaim := { program := "ytipenembpidoiaadoor", sum := "12cacba125eeaffe4cad7947d34d6ddfa187ecf138df9e9546d9afc76ceb70ba", func := "wayfinder/wayfinderlaw03.RotationMarks", spec := "rotationMarks", inPlace := ["internal/abi.NoEscape", "internal/bytealg.MakeNoZero"], named := ["math/bits.overflowError", "internal/strconv.uint64pow10", "math/bits.deBruijn32tab", "math/bits.deBruijn64tab"], apart := false, laid := [("math/bits.deBruijn32tab", laid_math_bits_deBruijn32tab), ("math/bits.deBruijn64tab", laid_math_bits_deBruijn64tab), ("internal/strconv.uint64pow10", laid_internal_strconv_uint64pow10)] }
def RotationMarksSaid : Prop := rotationMarksRow.holds Tryd.pinned (OpenSpec.ofChange rotationMarksSpec)

/-- ITS FALSE NEIGHBOUR: 'it returns false'. Refute it at one input. -/
def rotationMarksWrong : ChangeSpec := { name := "rotationMarks", fn := fun _ => fun
  | [d1, d2] => { results := [.lit (.bool false)], args := [d1, d2] }
  | _ => none }
def RotationMarksWrongFalsely : Prop := rotationMarksRow.holds Tryd.pinned (OpenSpec.ofChange rotationMarksWrong)

/-- 'wayfinderlaw03.RotationAdds': WHATEVER THE INPUT: true; the input reads as it did. -/
def rotationAddsSpec : ChangeSpec := { name := "rotationAdds", fn := fun _ => fun
  | [d1, d2, d3] => { results := [.lit (.bool true)], args := [d1, d2, d3] }
  | _ => none }
def rotationAddsRow : OpenClaim := { program := "ytipenembpidoiaadoor", sum := "12cacba125eeaffe4cad7947d34d6ddfa187ecf138df9e9546d9afc76ceb70ba", func := "wayfinder/wayfinderlaw03.RotationAdds", spec := "rotationAdds", inPlace := ["internal/abi.NoEscape", "internal/bytealg.MakeNoZero"], named := ["math/bits.overflowError", "internal/strconv.uint64pow10", "math/bits.deBruijn32tab", "math/bits.deBruijn64tab"], apart := false, laid := [("math/bits.deBruijn32tab", laid_math_bits_deBruijn32tab), ("math/bits.deBruijn64tab", laid_math_bits_deBruijn64tab), ("internal/strconv.uint64pow10", laid_internal_strconv_uint64pow10)] }
def RotationAddsSaid : Prop := rotationAddsRow.holds Tryd.pinned (OpenSpec.ofChange rotationAddsSpec)

/-- ITS FALSE NEIGHBOUR: 'it returns false'. Refute it at one input. -/
def rotationAddsWrong : ChangeSpec := { name := "rotationAdds", fn := fun _ => fun
  | [d1, d2, d3] => { results := [.lit (.bool false)], args := [d1, d2, d3] }
  | _ => none }
def RotationAddsWrongFalsely : Prop := rotationAddsRow.holds Tryd.pinned (OpenSpec.ofChange rotationAddsWrong)

/-- 'wayfinderlaw03.RotationActs': WHATEVER THE INPUT: true; the input reads as it did. -/
def rotationActsSpec : ChangeSpec := { name := "rotationActs", fn := fun _ => fun
  | [d1, d2, d3] => { results := [.lit (.bool true)], args := [d1, d2, d3] }
  | _ => none }
def rotationActsRow : OpenClaim := { program := "ytipenembpidoiaadoor", sum := "12cacba125eeaffe4cad7947d34d6ddfa187ecf138df9e9546d9afc76ceb70ba", func := "wayfinder/wayfinderlaw03.RotationActs", spec := "rotationActs", inPlace := ["internal/abi.NoEscape", "internal/bytealg.MakeNoZero"], named := ["math/bits.overflowError", "internal/strconv.uint64pow10", "math/bits.deBruijn32tab", "math/bits.deBruijn64tab"], apart := false, laid := [("math/bits.deBruijn32tab", laid_math_bits_deBruijn32tab), ("math/bits.deBruijn64tab", laid_math_bits_deBruijn64tab), ("internal/strconv.uint64pow10", laid_internal_strconv_uint64pow10)] }
def RotationActsSaid : Prop := rotationActsRow.holds Tryd.pinned (OpenSpec.ofChange rotationActsSpec)

/-- ITS FALSE NEIGHBOUR: 'it returns false'. Refute it at one input. -/
def rotationActsWrong : ChangeSpec := { name := "rotationActs", fn := fun _ => fun
  | [d1, d2, d3] => { results := [.lit (.bool false)], args := [d1, d2, d3] }
  | _ => none }
def RotationActsWrongFalsely : Prop := rotationActsRow.holds Tryd.pinned (OpenSpec.ofChange rotationActsWrong)

/-- 'wayfinderlaw03.RotationOrders': WHATEVER THE INPUT: true; the input reads as it did. -/
def rotationOrdersSpec : ChangeSpec := { name := "rotationOrders", fn := fun _ => fun
  | [d1, d2] => { results := [.lit (.bool true)], args := [d1, d2] }
  | _ => none }
def rotationOrdersRow : OpenClaim := { program := "ytipenembpidoiaadoor", sum := "12cacba125eeaffe4cad7947d34d6ddfa187ecf138df9e9546d9afc76ceb70ba", func := "wayfinder/wayfinderlaw03.RotationOrders", spec := "rotationOrders", inPlace := ["internal/abi.NoEscape", "internal/bytealg.MakeNoZero"], named := ["math/bits.overflowError", "internal/strconv.uint64pow10", "math/bits.deBruijn32tab", "math/bits.deBruijn64tab"], apart := false, laid := [("math/bits.deBruijn32tab", laid_math_bits_deBruijn32tab), ("math/bits.deBruijn64tab", laid_math_bits_deBruijn64tab), ("internal/strconv.uint64pow10", laid_internal_strconv_uint64pow10)] }
def RotationOrdersSaid : Prop := rotationOrdersRow.holds Tryd.pinned (OpenSpec.ofChange rotationOrdersSpec)

/-- ITS FALSE NEIGHBOUR: 'it returns false'. Refute it at one input. -/
def rotationOrdersWrong : ChangeSpec := { name := "rotationOrders", fn := fun _ => fun
  | [d1, d2] => { results := [.lit (.bool false)], args := [d1, d2] }
  | _ => none }
def RotationOrdersWrongFalsely : Prop := rotationOrdersRow.holds Tryd.pinned (OpenSpec.ofChange rotationOrdersWrong)

/- THE SECOND FORM. 'bulk': how many values and letters a reading holds, each counted each time it is reached (what is shared counts as often as it is met; a slice's spare places count too). A statement '..UptoSaid' is the law's where the arguments, and the package variables that the reading takes, are together of bulk at most 1048576: NARROWER than '..Said'. Prove '..Said' where nothing that the law and all that it calls make is longer than what came in: it says more and counts as full. Else prove '..UptoSaid'. A law counts once. -/
mutual
def uptoBulk {H : Type} : DataW H → Nat
  | .lit (.string bytes) => bytes.length + 1
  | .lit _ => 1
  | .nil => 1
  | .ptr d => uptoBulk d + 1
  | .slice elems spare => uptoBulkAll elems + uptoBulkAll spare + 1
  | .agg parts => uptoBulkAll parts + 1
  | .iface _ d => uptoBulk d + 1
  | .map entries => uptoBulkEntries entries + 1
  | .held _ => 1
def uptoBulkAll {H : Type} : List (DataW H) → Nat
  | [] => 0
  | d :: r => uptoBulk d + uptoBulkAll r
def uptoBulkEntries {H : Type} : List (Lit × DataW H) → Nat
  | [] => 0
  | x :: r => uptoBulkEntry x + uptoBulkEntries r
def uptoBulkEntry {H : Type} : Lit × DataW H → Nat
  | (.string bytes, d) => bytes.length + uptoBulk d + 1
  | (_, d) => uptoBulk d + 1
 end
def uptoSmall : (H : Type) → List (DataW H) → Bool := fun _ ds => decide (uptoBulkAll ds ≤ 1048576)
def OpenSpec.upto (s : _root_.Go.ChangeSpec) : _root_.Go.OpenSpec := { _root_.Go.OpenSpec.ofChange s with cond := some uptoSmall }

/-- 'wayfindertop.WholeChain', WHERE WHAT IT READS IS OF BULK AT MOST 1048576: true; the input reads as it did. -/
def wholeChainUptoRow : OpenClaim := { program := "ytipenembpidoiaadoor", sum := "12cacba125eeaffe4cad7947d34d6ddfa187ecf138df9e9546d9afc76ceb70ba", func := "wayfinder/wayfindertop.WholeChain", spec := "wholeChain", inPlace := ["internal/abi.NoEscape", "internal/bytealg.MakeNoZero"], unfollowed := true, recurses := true, named := ["math/bits.overflowError", "internal/strconv.uint64pow10", "math/bits.deBruijn32tab", "math/bits.deBruijn64tab"], apart := false, laid := [("math/bits.deBruijn32tab", laid_math_bits_deBruijn32tab), ("math/bits.deBruijn64tab", laid_math_bits_deBruijn64tab), ("internal/strconv.uint64pow10", laid_internal_strconv_uint64pow10)], narrowed := true }
def WholeChainUptoSaid : Prop := wholeChainUptoRow.holds Tryd.pinned (OpenSpec.upto wholeChainSpec)

/-- 'wayfinderlaw03.RotationCircle', WHERE WHAT IT READS IS OF BULK AT MOST 1048576: true; the input reads as it did. -/
def rotationCircleUptoRow : OpenClaim := { program := "ytipenembpidoiaadoor", sum := "12cacba125eeaffe4cad7947d34d6ddfa187ecf138df9e9546d9afc76ceb70ba", func := "wayfinder/wayfinderlaw03.RotationCircle", spec := "rotationCircle", inPlace := ["internal/abi.NoEscape", "internal/bytealg.MakeNoZero"], named := ["math/bits.overflowError", "internal/strconv.uint64pow10", "math/bits.deBruijn32tab", "math/bits.deBruijn64tab"], apart := false, laid := [("math/bits.deBruijn32tab", laid_math_bits_deBruijn32tab), ("math/bits.deBruijn64tab", laid_math_bits_deBruijn64tab), ("internal/strconv.uint64pow10", laid_internal_strconv_uint64pow10)], narrowed := true }
def RotationCircleUptoSaid : Prop := rotationCircleUptoRow.holds Tryd.pinned (OpenSpec.upto rotationCircleSpec)

/-- 'wayfinderlaw03.RotationGroup', WHERE WHAT IT READS IS OF BULK AT MOST 1048576: true; the input reads as it did. -/
def rotationGroupUptoRow : OpenClaim := { program := "ytipenembpidoiaadoor", sum := "12cacba125eeaffe4cad7947d34d6ddfa187ecf138df9e9546d9afc76ceb70ba", func := "wayfinder/wayfinderlaw03.RotationGroup", spec := "rotationGroup", inPlace := ["internal/abi.NoEscape", "internal/bytealg.MakeNoZero"], named := ["math/bits.overflowError", "internal/strconv.uint64pow10", "math/bits.deBruijn32tab", "math/bits.deBruijn64tab"], apart := false, laid := [("math/bits.deBruijn32tab", laid_math_bits_deBruijn32tab), ("math/bits.deBruijn64tab", laid_math_bits_deBruijn64tab), ("internal/strconv.uint64pow10", laid_internal_strconv_uint64pow10)], narrowed := true }
def RotationGroupUptoSaid : Prop := rotationGroupUptoRow.holds Tryd.pinned (OpenSpec.upto rotationGroupSpec)

/-- 'wayfinderlaw03.RotationRigid', WHERE WHAT IT READS IS OF BULK AT MOST 1048576: true; the input reads as it did. -/
def rotationRigidUptoRow : OpenClaim := { program := "ytipenembpidoiaadoor", sum := "12cacba125eeaffe4cad7947d34d6ddfa187ecf138df9e9546d9afc76ceb70ba", func := "wayfinder/wayfinderlaw03.RotationRigid", spec := "rotationRigid", inPlace := ["internal/abi.NoEscape", "internal/bytealg.MakeNoZero"], named := ["math/bits.overflowError", "internal/strconv.uint64pow10", "math/bits.deBruijn32tab", "math/bits.deBruijn64tab"], apart := false, laid := [("math/bits.deBruijn32tab", laid_math_bits_deBruijn32tab), ("math/bits.deBruijn64tab", laid_math_bits_deBruijn64tab), ("internal/strconv.uint64pow10", laid_internal_strconv_uint64pow10)], narrowed := true }
def RotationRigidUptoSaid : Prop := rotationRigidUptoRow.holds Tryd.pinned (OpenSpec.upto rotationRigidSpec)

/-- 'wayfinderlaw03.RotationMarks', WHERE WHAT IT READS IS OF BULK AT MOST 1048576: true; the input reads as it did. -/
def rotationMarksUptoRow : OpenClaim := { program := "ytipenembpidoiaadoor", sum := "12cacba125eeaffe4cad7947d34d6ddfa187ecf138df9e9546d9afc76ceb70ba", func := "wayfinder/wayfinderlaw03.RotationMarks", spec := "rotationMarks", inPlace := ["internal/abi.NoEscape", "internal/bytealg.MakeNoZero"], named := ["math/bits.overflowError", "internal/strconv.uint64pow10", "math/bits.deBruijn32tab", "math/bits.deBruijn64tab"], apart := false, laid := [("math/bits.deBruijn32tab", laid_math_bits_deBruijn32tab), ("math/bits.deBruijn64tab", laid_math_bits_deBruijn64tab), ("internal/strconv.uint64pow10", laid_internal_strconv_uint64pow10)], narrowed := true }
def RotationMarksUptoSaid : Prop := rotationMarksUptoRow.holds Tryd.pinned (OpenSpec.upto rotationMarksSpec)

/-- 'wayfinderlaw03.RotationAdds', WHERE WHAT IT READS IS OF BULK AT MOST 1048576: true; the input reads as it did. -/
def rotationAddsUptoRow : OpenClaim := { program := "ytipenembpidoiaadoor", sum := "12cacba125eeaffe4cad7947d34d6ddfa187ecf138df9e9546d9afc76ceb70ba", func := "wayfinder/wayfinderlaw03.RotationAdds", spec := "rotationAdds", inPlace := ["internal/abi.NoEscape", "internal/bytealg.MakeNoZero"], named := ["math/bits.overflowError", "internal/strconv.uint64pow10", "math/bits.deBruijn32tab", "math/bits.deBruijn64tab"], apart := false, laid := [("math/bits.deBruijn32tab", laid_math_bits_deBruijn32tab), ("math/bits.deBruijn64tab", laid_math_bits_deBruijn64tab), ("internal/strconv.uint64pow10", laid_internal_strconv_uint64pow10)], narrowed := true }
def RotationAddsUptoSaid : Prop := rotationAddsUptoRow.holds Tryd.pinned (OpenSpec.upto rotationAddsSpec)

/-- 'wayfinderlaw03.RotationActs', WHERE WHAT IT READS IS OF BULK AT MOST 1048576: true; the input reads as it did. -/
def rotationActsUptoRow : OpenClaim := { program := "ytipenembpidoiaadoor", sum := "12cacba125eeaffe4cad7947d34d6ddfa187ecf138df9e9546d9afc76ceb70ba", func := "wayfinder/wayfinderlaw03.RotationActs", spec := "rotationActs", inPlace := ["internal/abi.NoEscape", "internal/bytealg.MakeNoZero"], named := ["math/bits.overflowError", "internal/strconv.uint64pow10", "math/bits.deBruijn32tab", "math/bits.deBruijn64tab"], apart := false, laid := [("math/bits.deBruijn32tab", laid_math_bits_deBruijn32tab), ("math/bits.deBruijn64tab", laid_math_bits_deBruijn64tab), ("internal/strconv.uint64pow10", laid_internal_strconv_uint64pow10)], narrowed := true }
def RotationActsUptoSaid : Prop := rotationActsUptoRow.holds Tryd.pinned (OpenSpec.upto rotationActsSpec)

/-- 'wayfinderlaw03.RotationOrders', WHERE WHAT IT READS IS OF BULK AT MOST 1048576: true; the input reads as it did. -/
def rotationOrdersUptoRow : OpenClaim := { program := "ytipenembpidoiaadoor", sum := "12cacba125eeaffe4cad7947d34d6ddfa187ecf138df9e9546d9afc76ceb70ba", func := "wayfinder/wayfinderlaw03.RotationOrders", spec := "rotationOrders", inPlace := ["internal/abi.NoEscape", "internal/bytealg.MakeNoZero"], named := ["math/bits.overflowError", "internal/strconv.uint64pow10", "math/bits.deBruijn32tab", "math/bits.deBruijn64tab"], apart := false, laid := [("math/bits.deBruijn32tab", laid_math_bits_deBruijn32tab), ("math/bits.deBruijn64tab", laid_math_bits_deBruijn64tab), ("internal/strconv.uint64pow10", laid_internal_strconv_uint64pow10)], narrowed := true }
def RotationOrdersUptoSaid : Prop := rotationOrdersUptoRow.holds Tryd.pinned (OpenSpec.upto rotationOrdersSpec)

end Rows
end Go.Proofs.YtipenembpidoiaaDoor
