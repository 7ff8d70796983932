/-
  No cell of these rows narrows 'for every input' (looked for: loops, veiled, ifaces, maps, wideKeys, modest, calm, conditions, laid).
  DERIVED. THE GIVEN ROWS OF THIS SEAT. 6 by the template 'for every input the law returns true; each argument reads behind the call as it read before'; 0 by the template 'total and deterministic' (their statements: YtcafppnjemgkiaaTotals.lean).
  GIVEN WITH THE SEED: the statements are not yours to turn. If you find one false, say at which input.
  Laid BY PROGRAM, IN A SANDBOX (cutbox-rows.mjs): the forced cells as the released guide's own fill.sh prints them over the translation edd92c6275c9a190… (all of the seat's roots in one cut). By AI agents, Wed Nov 11 2026. No macro, syntax, notation, axiom, sorry.
-/
import Derived.Test.YtcafppnjemgkiaaChecked
import GoSem.Claim
import GoSem.ClaimJoined
import GoSem.ClaimMapViews
import Derived.JoinedTies
import Derived.KernelRfl
namespace Go.Proofs.Ytcafppnjemgkiaa
/- THE CELL 'sum', in the pinned program and in every row, IS THE sha256 OF THE DUMP (.gsa) THAT YtcafppnjemgkiaaProg.lean LOADS. Nothing in Lean hashes anything: it is a label: what it is worth is what the hold of that sum in a sandbox is worth. -/
noncomputable def Try.pinned : Pinned := { name := "ytcafppnjemgkiaa", sum := "edd92c6275c9a190552762c7afecdb38009c7c1550daa466718ec2ddb25658cc", checked := Try.checked }
namespace Rows
def none {H : Type} : Left H := { results := [], args := [] }

/-- 'wayfinderlaw28.GraphChains': WHATEVER THE INPUT: true; the input reads as it did. -/
def graphChainsSpec : ChangeSpec := { name := "graphChains", fn := fun _ => fun
  | [d1, d2, d3] => { results := [.lit (.bool true)], args := [d1, d2, d3] }
  | _ => none }
def graphChainsRow : OpenClaim := { program := "ytcafppnjemgkiaa", sum := "edd92c6275c9a190552762c7afecdb38009c7c1550daa466718ec2ddb25658cc", func := "wayfinder/wayfinderlaw28.GraphChains", spec := "graphChains", unfollowed := true, recurses := true, named := ["math/bits.overflowError"], apart := false }
def GraphChainsSaid : Prop := graphChainsRow.holds Try.pinned (OpenSpec.ofChange graphChainsSpec)

/-- ITS FALSE NEIGHBOUR: 'it returns false'. Refute it at one input. -/
def graphChainsWrong : ChangeSpec := { name := "graphChains", fn := fun _ => fun
  | [d1, d2, d3] => { results := [.lit (.bool false)], args := [d1, d2, d3] }
  | _ => none }
def GraphChainsWrongFalsely : Prop := graphChainsRow.holds Try.pinned (OpenSpec.ofChange graphChainsWrong)

/-- 'wayfinderlaw28.GraphMoves': WHATEVER THE INPUT: true; the input reads as it did. -/
def graphMovesSpec : ChangeSpec := { name := "graphMoves", fn := fun _ => fun
  | [d1, d2, d3] => { results := [.lit (.bool true)], args := [d1, d2, d3] }
  | _ => none }
def graphMovesRow : OpenClaim := { program := "ytcafppnjemgkiaa", sum := "edd92c6275c9a190552762c7afecdb38009c7c1550daa466718ec2ddb25658cc", func := "wayfinder/wayfinderlaw28.GraphMoves", spec := "graphMoves", unfollowed := true, recurses := true, named := ["math/bits.overflowError"], apart := false }
def GraphMovesSaid : Prop := graphMovesRow.holds Try.pinned (OpenSpec.ofChange graphMovesSpec)

/-- ITS FALSE NEIGHBOUR: 'it returns false'. Refute it at one input. -/
def graphMovesWrong : ChangeSpec := { name := "graphMoves", fn := fun _ => fun
  | [d1, d2, d3] => { results := [.lit (.bool false)], args := [d1, d2, d3] }
  | _ => none }
def GraphMovesWrongFalsely : Prop := graphMovesRow.holds Try.pinned (OpenSpec.ofChange graphMovesWrong)

/-- 'wayfinderlaw28.GraphLengths': WHATEVER THE INPUT: true; the input reads as it did. -/
def graphLengthsSpec : ChangeSpec := { name := "graphLengths", fn := fun _ => fun
  | [d1, d2] => { results := [.lit (.bool true)], args := [d1, d2] }
  | _ => none }
def graphLengthsRow : OpenClaim := { program := "ytcafppnjemgkiaa", sum := "edd92c6275c9a190552762c7afecdb38009c7c1550daa466718ec2ddb25658cc", func := "wayfinder/wayfinderlaw28.GraphLengths", spec := "graphLengths", unfollowed := true, recurses := true, named := ["math/bits.overflowError"], apart := false }
def GraphLengthsSaid : Prop := graphLengthsRow.holds Try.pinned (OpenSpec.ofChange graphLengthsSpec)

/-- ITS FALSE NEIGHBOUR: 'it returns false'. Refute it at one input. -/
def graphLengthsWrong : ChangeSpec := { name := "graphLengths", fn := fun _ => fun
  | [d1, d2] => { results := [.lit (.bool false)], args := [d1, d2] }
  | _ => none }
def GraphLengthsWrongFalsely : Prop := graphLengthsRow.holds Try.pinned (OpenSpec.ofChange graphLengthsWrong)

/-- 'wayfinderlaw28.GraphAdds': WHATEVER THE INPUT: true; the input reads as it did. -/
def graphAddsSpec : ChangeSpec := { name := "graphAdds", fn := fun _ => fun
  | [d1, d2] => { results := [.lit (.bool true)], args := [d1, d2] }
  | _ => none }
def graphAddsRow : OpenClaim := { program := "ytcafppnjemgkiaa", sum := "edd92c6275c9a190552762c7afecdb38009c7c1550daa466718ec2ddb25658cc", func := "wayfinder/wayfinderlaw28.GraphAdds", spec := "graphAdds", unfollowed := true, recurses := true, named := ["math/bits.overflowError"], apart := false }
def GraphAddsSaid : Prop := graphAddsRow.holds Try.pinned (OpenSpec.ofChange graphAddsSpec)

/-- ITS FALSE NEIGHBOUR: 'it returns false'. Refute it at one input. -/
def graphAddsWrong : ChangeSpec := { name := "graphAdds", fn := fun _ => fun
  | [d1, d2] => { results := [.lit (.bool false)], args := [d1, d2] }
  | _ => none }
def GraphAddsWrongFalsely : Prop := graphAddsRow.holds Try.pinned (OpenSpec.ofChange graphAddsWrong)

/-- 'wayfinderlaw28.GraphTurnsRound': WHATEVER THE INPUT: true; the input reads as it did. -/
def graphTurnsRoundSpec : ChangeSpec := { name := "graphTurnsRound", fn := fun _ => fun
  | [d1, d2] => { results := [.lit (.bool true)], args := [d1, d2] }
  | _ => none }
def graphTurnsRoundRow : OpenClaim := { program := "ytcafppnjemgkiaa", sum := "edd92c6275c9a190552762c7afecdb38009c7c1550daa466718ec2ddb25658cc", func := "wayfinder/wayfinderlaw28.GraphTurnsRound", spec := "graphTurnsRound", unfollowed := true, recurses := true, named := ["math/bits.overflowError"], apart := false }
def GraphTurnsRoundSaid : Prop := graphTurnsRoundRow.holds Try.pinned (OpenSpec.ofChange graphTurnsRoundSpec)

/-- ITS FALSE NEIGHBOUR: 'it returns false'. Refute it at one input. -/
def graphTurnsRoundWrong : ChangeSpec := { name := "graphTurnsRound", fn := fun _ => fun
  | [d1, d2] => { results := [.lit (.bool false)], args := [d1, d2] }
  | _ => none }
def GraphTurnsRoundWrongFalsely : Prop := graphTurnsRoundRow.holds Try.pinned (OpenSpec.ofChange graphTurnsRoundWrong)

/-- 'wayfinderlaw28.GraphLaplacians': WHATEVER THE INPUT: true; the input reads as it did. -/
def graphLaplaciansSpec : ChangeSpec := { name := "graphLaplacians", fn := fun _ => fun
  | [d] => { results := [.lit (.bool true)], args := [d] }
  | _ => none }
def graphLaplaciansRow : OpenClaim := { program := "ytcafppnjemgkiaa", sum := "edd92c6275c9a190552762c7afecdb38009c7c1550daa466718ec2ddb25658cc", func := "wayfinder/wayfinderlaw28.GraphLaplacians", spec := "graphLaplacians", unfollowed := true, recurses := true, named := ["math/bits.overflowError"], apart := false }
def GraphLaplaciansSaid : Prop := graphLaplaciansRow.holds Try.pinned (OpenSpec.ofChange graphLaplaciansSpec)

/-- ITS FALSE NEIGHBOUR: 'it returns false'. Refute it at one input. -/
def graphLaplaciansWrong : ChangeSpec := { name := "graphLaplacians", fn := fun _ => fun
  | [d] => { results := [.lit (.bool false)], args := [d] }
  | _ => none }
def GraphLaplaciansWrongFalsely : Prop := graphLaplaciansRow.holds Try.pinned (OpenSpec.ofChange graphLaplaciansWrong)

/- THE SECOND FORM. 'bulk': how many values and letters a reading holds, each counted each time it is reached (what is shared counts as often as it is met; a slice's spare places count too). A statement '..UptoSaid' is the law's where the arguments, and the package variables that the reading takes, are together of bulk at most 1048576: NARROWER than '..Said'. Prove '..Said' where nothing that the law and all that it calls make is longer than what came in: it says more and counts as full. Else prove '..UptoSaid'. A law counts once. -/
mutual
def uptoBulk {H : Type} : DataW H → Nat
  | .lit (.string bytes) => bytes.length + 1
  | .lit _ => 1
  | .nil => 1
  | .ptr d => uptoBulk d + 1
  | .slice elems spare => uptoBulkAll elems + uptoBulkAll spare + 1
  | .agg parts => uptoBulkAll parts + 1
  | .iface _ d => uptoBulk d + 1
  | .map entries => uptoBulkEntries entries + 1
  | .held _ => 1
def uptoBulkAll {H : Type} : List (DataW H) → Nat
  | [] => 0
  | d :: r => uptoBulk d + uptoBulkAll r
def uptoBulkEntries {H : Type} : List (Lit × DataW H) → Nat
  | [] => 0
  | x :: r => uptoBulkEntry x + uptoBulkEntries r
def uptoBulkEntry {H : Type} : Lit × DataW H → Nat
  | (.string bytes, d) => bytes.length + uptoBulk d + 1
  | (_, d) => uptoBulk d + 1
 end
def uptoSmall : (H : Type) → List (DataW H) → Bool := fun _ ds => decide (uptoBulkAll ds ≤ 1048576)
def OpenSpec.upto (s : _root_.Go.ChangeSpec) : _root_.Go.OpenSpec := { _root_.Go.OpenSpec.ofChange s with cond := some uptoSmall }

/-- 'wayfinderlaw28.GraphChains', WHERE WHAT IT READS IS OF BULK AT MOST 1048576: true; the input reads as it did. -/
def graphChainsUptoRow : OpenClaim := { program := "ytcafppnjemgkiaa", sum := "edd92c6275c9a190552762c7afecdb38009c7c1550daa466718ec2ddb25658cc", func := "wayfinder/wayfinderlaw28.GraphChains", spec := "graphChains", unfollowed := true, recurses := true, named := ["math/bits.overflowError"], apart := false, narrowed := true }
def GraphChainsUptoSaid : Prop := graphChainsUptoRow.holds Try.pinned (OpenSpec.upto graphChainsSpec)

/-- 'wayfinderlaw28.GraphMoves', WHERE WHAT IT READS IS OF BULK AT MOST 1048576: true; the input reads as it did. -/
def graphMovesUptoRow : OpenClaim := { program := "ytcafppnjemgkiaa", sum := "edd92c6275c9a190552762c7afecdb38009c7c1550daa466718ec2ddb25658cc", func := "wayfinder/wayfinderlaw28.GraphMoves", spec := "graphMoves", unfollowed := true, recurses := true, named := ["math/bits.overflowError"], apart := false, narrowed := true }
def GraphMovesUptoSaid : Prop := graphMovesUptoRow.holds Try.pinned (OpenSpec.upto graphMovesSpec)

/-- 'wayfinderlaw28.GraphLengths', WHERE WHAT IT READS IS OF BULK AT MOST 1048576: true; the input reads as it did. -/
def graphLengthsUptoRow : OpenClaim := { program := "ytcafppnjemgkiaa", sum := "edd92c6275c9a190552762c7afecdb38009c7c1550daa466718ec2ddb25658cc", func := "wayfinder/wayfinderlaw28.GraphLengths", spec := "graphLengths", unfollowed := true, recurses := true, named := ["math/bits.overflowError"], apart := false, narrowed := true }
def GraphLengthsUptoSaid : Prop := graphLengthsUptoRow.holds Try.pinned (OpenSpec.upto graphLengthsSpec)

/-- 'wayfinderlaw28.GraphAdds', WHERE WHAT IT READS IS OF BULK AT MOST 1048576: true; the input reads as it did. -/
def graphAddsUptoRow : OpenClaim := { program := "ytcafppnjemgkiaa", sum := "edd92c6275c9a190552762c7afecdb38009c7c1550daa466718ec2ddb25658cc", func := "wayfinder/wayfinderlaw28.GraphAdds", spec := "graphAdds", unfollowed := true, recurses := true, named := ["math/bits.overflowError"], apart := false, narrowed := true }
def GraphAddsUptoSaid : Prop := graphAddsUptoRow.holds Try.pinned (OpenSpec.upto graphAddsSpec)

/-- 'wayfinderlaw28.GraphTurnsRound', WHERE WHAT IT READS IS OF BULK AT MOST 1048576: true; the input reads as it did. -/
def graphTurnsRoundUptoRow : OpenClaim := { program := "ytcafppnjemgkiaa", sum := "edd92c6275c9a190552762c7afecdb38009c7c1550daa466718ec2ddb25658cc", func := "wayfinder/wayfinderlaw28.GraphTurnsRound", spec := "graphTurnsRound", unfollowed := true, recurses := true, named := ["math/bits.overflowError"], apart := false, narrowed := true }
def GraphTurnsRoundUptoSaid : Prop := graphTurnsRoundUptoRow.holds Try.pinned (OpenSpec.upto graphTurnsRoundSpec)

/-- 'wayfinderlaw28.GraphLaplacians', WHERE WHAT IT READS IS OF BULK AT MOST 1048576: true; the input reads as it did. -/
def graphLaplaciansUptoRow : OpenClaim := { program := "ytcafppnjemgkiaa", sum := "edd92c6275c9a190552762c7afecdb38009c7c1550daa466718ec2ddb25658cc", func := "wayfinder/wayfinderlaw28.GraphLaplacians", spec := "graphLaplacians", unfollowed := true, recurses := true, named := ["math/bits.overflowError"], apart := false, narrowed := true }
def GraphLaplaciansUptoSaid : Prop := graphLaplaciansUptoRow.holds Try.pinned (OpenSpec.upto graphLaplaciansSpec)

end Rows
end Go.Proofs.Ytcafppnjemgkiaa
