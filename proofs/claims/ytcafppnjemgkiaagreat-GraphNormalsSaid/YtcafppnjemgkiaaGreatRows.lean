/-
  No cell of these rows narrows 'for every input' (looked for: loops, veiled, ifaces, maps, wideKeys, modest, calm, conditions, laid).
  DERIVED. THE GIVEN ROWS OF THIS SEAT. 3 by the template 'for every input the law returns true; each argument reads behind the call as it read before'; 0 by the template 'total and deterministic' (their statements: YtcafppnjemgkiaaGreatTotals.lean).
  GIVEN WITH THE SEED: the statements are not yours to turn. If you find one false, say at which input.
  Laid BY PROGRAM, IN A SANDBOX (cutbox-rows.mjs): the forced cells as the released guide's own fill.sh prints them over the translation 91c4460aaab54795… (all of the seat's roots in one cut). By AI agents, Wed Nov 11 2026. No macro, syntax, notation, axiom, sorry.
-/
import Derived.Test.YtcafppnjemgkiaaGreatChecked
import GoSem.Claim
import GoSem.ClaimJoined
import GoSem.ClaimMapViews
import Derived.JoinedTies
import Derived.KernelRfl
namespace Go.Proofs.YtcafppnjemgkiaaGreat
/- THE CELL 'sum', in the pinned program and in every row, IS THE sha256 OF THE DUMP (.gsa) THAT YtcafppnjemgkiaaGreatProg.lean LOADS. Nothing in Lean hashes anything: it is a label: what it is worth is what the hold of that sum in a sandbox is worth. -/
noncomputable def Tryz.pinned : Pinned := { name := "ytcafppnjemgkiaagreat", sum := "91c4460aaab547950f392f5529f4191a6086b810e792d66a2f4679e1696ce126", checked := Tryz.checked }
namespace Rows
def none {H : Type} : Left H := { results := [], args := [] }

/-- 'wayfinderlaw28.GraphMatchesReference': WHATEVER THE INPUT: true; the input reads as it did. -/
def graphMatchesReferenceSpec : ChangeSpec := { name := "graphMatchesReference", fn := fun _ => fun
  | [d1, d2] => { results := [.lit (.bool true)], args := [d1, d2] }
  | _ => none }
def graphMatchesReferenceRow : OpenClaim := { program := "ytcafppnjemgkiaagreat", sum := "91c4460aaab547950f392f5529f4191a6086b810e792d66a2f4679e1696ce126", func := "wayfinder/wayfinderlaw28.GraphMatchesReference", spec := "graphMatchesReference", unfollowed := true, recurses := true, named := ["math/bits.overflowError"], apart := false }
def GraphMatchesReferenceSaid : Prop := graphMatchesReferenceRow.holds Tryz.pinned (OpenSpec.ofChange graphMatchesReferenceSpec)

/-- ITS FALSE NEIGHBOUR: 'it returns false'. Refute it at one input. -/
def graphMatchesReferenceWrong : ChangeSpec := { name := "graphMatchesReference", fn := fun _ => fun
  | [d1, d2] => { results := [.lit (.bool false)], args := [d1, d2] }
  | _ => none }
def GraphMatchesReferenceWrongFalsely : Prop := graphMatchesReferenceRow.holds Tryz.pinned (OpenSpec.ofChange graphMatchesReferenceWrong)

/-- 'wayfinderlaw28.GraphNormals': WHATEVER THE INPUT: true; the input reads as it did. -/
def graphNormalsSpec : ChangeSpec := { name := "graphNormals", fn := fun _ => fun
  | [d] => { results := [.lit (.bool true)], args := [d] }
  | _ => none }
def graphNormalsRow : OpenClaim := { program := "ytcafppnjemgkiaagreat", sum := "91c4460aaab547950f392f5529f4191a6086b810e792d66a2f4679e1696ce126", func := "wayfinder/wayfinderlaw28.GraphNormals", spec := "graphNormals", unfollowed := true, recurses := true, named := ["math/bits.overflowError"], apart := false }
def GraphNormalsSaid : Prop := graphNormalsRow.holds Tryz.pinned (OpenSpec.ofChange graphNormalsSpec)

/-- ITS FALSE NEIGHBOUR: 'it returns false'. Refute it at one input. -/
def graphNormalsWrong : ChangeSpec := { name := "graphNormals", fn := fun _ => fun
  | [d] => { results := [.lit (.bool false)], args := [d] }
  | _ => none }
def GraphNormalsWrongFalsely : Prop := graphNormalsRow.holds Tryz.pinned (OpenSpec.ofChange graphNormalsWrong)

/-- 'wayfinderlaw28.GraphCosts': WHATEVER THE INPUT: true; the input reads as it did. -/
def graphCostsSpec : ChangeSpec := { name := "graphCosts", fn := fun _ => fun
  | [d1, d2, d3] => { results := [.lit (.bool true)], args := [d1, d2, d3] }
  | _ => none }
def graphCostsRow : OpenClaim := { program := "ytcafppnjemgkiaagreat", sum := "91c4460aaab547950f392f5529f4191a6086b810e792d66a2f4679e1696ce126", func := "wayfinder/wayfinderlaw28.GraphCosts", spec := "graphCosts", unfollowed := true, recurses := true, named := ["math/bits.overflowError"], apart := false }
def GraphCostsSaid : Prop := graphCostsRow.holds Tryz.pinned (OpenSpec.ofChange graphCostsSpec)

/-- ITS FALSE NEIGHBOUR: 'it returns false'. Refute it at one input. -/
def graphCostsWrong : ChangeSpec := { name := "graphCosts", fn := fun _ => fun
  | [d1, d2, d3] => { results := [.lit (.bool false)], args := [d1, d2, d3] }
  | _ => none }
def GraphCostsWrongFalsely : Prop := graphCostsRow.holds Tryz.pinned (OpenSpec.ofChange graphCostsWrong)

/- THE SECOND FORM. 'bulk': how many values and letters a reading holds, each counted each time it is reached (what is shared counts as often as it is met; a slice's spare places count too). A statement '..UptoSaid' is the law's where the arguments, and the package variables that the reading takes, are together of bulk at most 1048576: NARROWER than '..Said'. Prove '..Said' where nothing that the law and all that it calls make is longer than what came in: it says more and counts as full. Else prove '..UptoSaid'. A law counts once. -/
mutual
def uptoBulk {H : Type} : DataW H → Nat
  | .lit (.string bytes) => bytes.length + 1
  | .lit _ => 1
  | .nil => 1
  | .ptr d => uptoBulk d + 1
  | .slice elems spare => uptoBulkAll elems + uptoBulkAll spare + 1
  | .agg parts => uptoBulkAll parts + 1
  | .iface _ d => uptoBulk d + 1
  | .map entries => uptoBulkEntries entries + 1
  | .held _ => 1
def uptoBulkAll {H : Type} : List (DataW H) → Nat
  | [] => 0
  | d :: r => uptoBulk d + uptoBulkAll r
def uptoBulkEntries {H : Type} : List (Lit × DataW H) → Nat
  | [] => 0
  | x :: r => uptoBulkEntry x + uptoBulkEntries r
def uptoBulkEntry {H : Type} : Lit × DataW H → Nat
  | (.string bytes, d) => bytes.length + uptoBulk d + 1
  | (_, d) => uptoBulk d + 1
 end
def uptoSmall : (H : Type) → List (DataW H) → Bool := fun _ ds => decide (uptoBulkAll ds ≤ 1048576)
def OpenSpec.upto (s : _root_.Go.ChangeSpec) : _root_.Go.OpenSpec := { _root_.Go.OpenSpec.ofChange s with cond := some uptoSmall }

/-- 'wayfinderlaw28.GraphMatchesReference', WHERE WHAT IT READS IS OF BULK AT MOST 1048576: true; the input reads as it did. -/
def graphMatchesReferenceUptoRow : OpenClaim := { program := "ytcafppnjemgkiaagreat", sum := "91c4460aaab547950f392f5529f4191a6086b810e792d66a2f4679e1696ce126", func := "wayfinder/wayfinderlaw28.GraphMatchesReference", spec := "graphMatchesReference", unfollowed := true, recurses := true, named := ["math/bits.overflowError"], apart := false, narrowed := true }
def GraphMatchesReferenceUptoSaid : Prop := graphMatchesReferenceUptoRow.holds Tryz.pinned (OpenSpec.upto graphMatchesReferenceSpec)

/-- 'wayfinderlaw28.GraphNormals', WHERE WHAT IT READS IS OF BULK AT MOST 1048576: true; the input reads as it did. -/
def graphNormalsUptoRow : OpenClaim := { program := "ytcafppnjemgkiaagreat", sum := "91c4460aaab547950f392f5529f4191a6086b810e792d66a2f4679e1696ce126", func := "wayfinder/wayfinderlaw28.GraphNormals", spec := "graphNormals", unfollowed := true, recurses := true, named := ["math/bits.overflowError"], apart := false, narrowed := true }
def GraphNormalsUptoSaid : Prop := graphNormalsUptoRow.holds Tryz.pinned (OpenSpec.upto graphNormalsSpec)

/-- 'wayfinderlaw28.GraphCosts', WHERE WHAT IT READS IS OF BULK AT MOST 1048576: true; the input reads as it did. -/
def graphCostsUptoRow : OpenClaim := { program := "ytcafppnjemgkiaagreat", sum := "91c4460aaab547950f392f5529f4191a6086b810e792d66a2f4679e1696ce126", func := "wayfinder/wayfinderlaw28.GraphCosts", spec := "graphCosts", unfollowed := true, recurses := true, named := ["math/bits.overflowError"], apart := false, narrowed := true }
def GraphCostsUptoSaid : Prop := graphCostsUptoRow.holds Tryz.pinned (OpenSpec.upto graphCostsSpec)

end Rows
end Go.Proofs.YtcafppnjemgkiaaGreat
