/-
  No cell of these rows narrows 'for every input' (looked for: loops, veiled, ifaces, maps, wideKeys, modest, calm, conditions, laid).
  DERIVED. THE GIVEN ROWS OF THIS SEAT. 6 by the template 'for every input the law returns true; each argument reads behind the call as it read before'; 0 by the template 'total and deterministic' (their statements: YtgopibpkgmafiaaTotals.lean).
  GIVEN WITH THE SEED: the statements are not yours to turn. If you find one false, say at which input.
  Laid BY PROGRAM, IN A SANDBOX (cutbox-rows.mjs): the forced cells as the released guide's own fill.sh prints them over the translation db12e3be39ab4e04… (all of the seat's roots in one cut). By AI agents, Wed Nov 11 2026. No macro, syntax, notation, axiom, sorry.
-/
import Derived.Test.YtgopibpkgmafiaaChecked
import GoSem.Claim
import GoSem.ClaimJoined
import GoSem.ClaimMapViews
import Derived.JoinedTies
import Derived.KernelRfl
namespace Go.Proofs.Ytgopibpkgmafiaa
/- THE CELL 'sum', in the pinned program and in every row, IS THE sha256 OF THE DUMP (.gsa) THAT YtgopibpkgmafiaaProg.lean LOADS. Nothing in Lean hashes anything: it is a label: what it is worth is what the hold of that sum in a sandbox is worth. -/
noncomputable def Try.pinned : Pinned := { name := "ytgopibpkgmafiaa", sum := "db12e3be39ab4e04525824c8a63592295240430b7c9be0c4de8cee35ca5a51a6", checked := Try.checked }
namespace Rows
def none {H : Type} : Left H := { results := [], args := [] }

/-- 'wayfinderlaw32.LeverageResists': WHATEVER THE INPUT: true; the input reads as it did. -/
def leverageResistsSpec : ChangeSpec := { name := "leverageResists", fn := fun _ => fun
  | [d1, d2, d3] => { results := [.lit (.bool true)], args := [d1, d2, d3] }
  | _ => none }
def leverageResistsRow : OpenClaim := { program := "ytgopibpkgmafiaa", sum := "db12e3be39ab4e04525824c8a63592295240430b7c9be0c4de8cee35ca5a51a6", func := "wayfinder/wayfinderlaw32.LeverageResists", spec := "leverageResists", unfollowed := true, recurses := true, named := ["math/bits.overflowError"], apart := false }
def LeverageResistsSaid : Prop := leverageResistsRow.holds Try.pinned (OpenSpec.ofChange leverageResistsSpec)

/-- ITS FALSE NEIGHBOUR: 'it returns false'. Refute it at one input. -/
def leverageResistsWrong : ChangeSpec := { name := "leverageResists", fn := fun _ => fun
  | [d1, d2, d3] => { results := [.lit (.bool false)], args := [d1, d2, d3] }
  | _ => none }
def LeverageResistsWrongFalsely : Prop := leverageResistsRow.holds Try.pinned (OpenSpec.ofChange leverageResistsWrong)

/-- 'wayfinderlaw32.LeverageTriangle': WHATEVER THE INPUT: true; the input reads as it did. -/
def leverageTriangleSpec : ChangeSpec := { name := "leverageTriangle", fn := fun _ => fun
  | [d1, d2] => { results := [.lit (.bool true)], args := [d1, d2] }
  | _ => none }
def leverageTriangleRow : OpenClaim := { program := "ytgopibpkgmafiaa", sum := "db12e3be39ab4e04525824c8a63592295240430b7c9be0c4de8cee35ca5a51a6", func := "wayfinder/wayfinderlaw32.LeverageTriangle", spec := "leverageTriangle", unfollowed := true, recurses := true, named := ["math/bits.overflowError"], apart := false }
def LeverageTriangleSaid : Prop := leverageTriangleRow.holds Try.pinned (OpenSpec.ofChange leverageTriangleSpec)

/-- ITS FALSE NEIGHBOUR: 'it returns false'. Refute it at one input. -/
def leverageTriangleWrong : ChangeSpec := { name := "leverageTriangle", fn := fun _ => fun
  | [d1, d2] => { results := [.lit (.bool false)], args := [d1, d2] }
  | _ => none }
def LeverageTriangleWrongFalsely : Prop := leverageTriangleRow.holds Try.pinned (OpenSpec.ofChange leverageTriangleWrong)

/-- 'wayfinderlaw32.LeverageMore': WHATEVER THE INPUT: true; the input reads as it did. -/
def leverageMoreSpec : ChangeSpec := { name := "leverageMore", fn := fun _ => fun
  | [d1, d2, d3] => { results := [.lit (.bool true)], args := [d1, d2, d3] }
  | _ => none }
def leverageMoreRow : OpenClaim := { program := "ytgopibpkgmafiaa", sum := "db12e3be39ab4e04525824c8a63592295240430b7c9be0c4de8cee35ca5a51a6", func := "wayfinder/wayfinderlaw32.LeverageMore", spec := "leverageMore", unfollowed := true, recurses := true, named := ["math/bits.overflowError"], apart := false }
def LeverageMoreSaid : Prop := leverageMoreRow.holds Try.pinned (OpenSpec.ofChange leverageMoreSpec)

/-- ITS FALSE NEIGHBOUR: 'it returns false'. Refute it at one input. -/
def leverageMoreWrong : ChangeSpec := { name := "leverageMore", fn := fun _ => fun
  | [d1, d2, d3] => { results := [.lit (.bool false)], args := [d1, d2, d3] }
  | _ => none }
def LeverageMoreWrongFalsely : Prop := leverageMoreRow.holds Try.pinned (OpenSpec.ofChange leverageMoreWrong)

/-- 'wayfinderlaw32.LeverageShares': WHATEVER THE INPUT: true; the input reads as it did. -/
def leverageSharesSpec : ChangeSpec := { name := "leverageShares", fn := fun _ => fun
  | [d1, d2] => { results := [.lit (.bool true)], args := [d1, d2] }
  | _ => none }
def leverageSharesRow : OpenClaim := { program := "ytgopibpkgmafiaa", sum := "db12e3be39ab4e04525824c8a63592295240430b7c9be0c4de8cee35ca5a51a6", func := "wayfinder/wayfinderlaw32.LeverageShares", spec := "leverageShares", unfollowed := true, recurses := true, named := ["math/bits.overflowError"], apart := false }
def LeverageSharesSaid : Prop := leverageSharesRow.holds Try.pinned (OpenSpec.ofChange leverageSharesSpec)

/-- ITS FALSE NEIGHBOUR: 'it returns false'. Refute it at one input. -/
def leverageSharesWrong : ChangeSpec := { name := "leverageShares", fn := fun _ => fun
  | [d1, d2] => { results := [.lit (.bool false)], args := [d1, d2] }
  | _ => none }
def LeverageSharesWrongFalsely : Prop := leverageSharesRow.holds Try.pinned (OpenSpec.ofChange leverageSharesWrong)

/-- 'wayfinderlaw32.LeverageForest': WHATEVER THE INPUT: true; the input reads as it did. -/
def leverageForestSpec : ChangeSpec := { name := "leverageForest", fn := fun _ => fun
  | [d] => { results := [.lit (.bool true)], args := [d] }
  | _ => none }
def leverageForestRow : OpenClaim := { program := "ytgopibpkgmafiaa", sum := "db12e3be39ab4e04525824c8a63592295240430b7c9be0c4de8cee35ca5a51a6", func := "wayfinder/wayfinderlaw32.LeverageForest", spec := "leverageForest", unfollowed := true, recurses := true, named := ["math/bits.overflowError"], apart := false }
def LeverageForestSaid : Prop := leverageForestRow.holds Try.pinned (OpenSpec.ofChange leverageForestSpec)

/-- ITS FALSE NEIGHBOUR: 'it returns false'. Refute it at one input. -/
def leverageForestWrong : ChangeSpec := { name := "leverageForest", fn := fun _ => fun
  | [d] => { results := [.lit (.bool false)], args := [d] }
  | _ => none }
def LeverageForestWrongFalsely : Prop := leverageForestRow.holds Try.pinned (OpenSpec.ofChange leverageForestWrong)

/-- 'wayfinderlaw32.LeverageFoster': WHATEVER THE INPUT: true; the input reads as it did. -/
def leverageFosterSpec : ChangeSpec := { name := "leverageFoster", fn := fun _ => fun
  | [d] => { results := [.lit (.bool true)], args := [d] }
  | _ => none }
def leverageFosterRow : OpenClaim := { program := "ytgopibpkgmafiaa", sum := "db12e3be39ab4e04525824c8a63592295240430b7c9be0c4de8cee35ca5a51a6", func := "wayfinder/wayfinderlaw32.LeverageFoster", spec := "leverageFoster", unfollowed := true, recurses := true, named := ["math/bits.overflowError"], apart := false }
def LeverageFosterSaid : Prop := leverageFosterRow.holds Try.pinned (OpenSpec.ofChange leverageFosterSpec)

/-- ITS FALSE NEIGHBOUR: 'it returns false'. Refute it at one input. -/
def leverageFosterWrong : ChangeSpec := { name := "leverageFoster", fn := fun _ => fun
  | [d] => { results := [.lit (.bool false)], args := [d] }
  | _ => none }
def LeverageFosterWrongFalsely : Prop := leverageFosterRow.holds Try.pinned (OpenSpec.ofChange leverageFosterWrong)

/- THE SECOND FORM. 'bulk': how many values and letters a reading holds, each counted each time it is reached (what is shared counts as often as it is met; a slice's spare places count too). A statement '..UptoSaid' is the law's where the arguments, and the package variables that the reading takes, are together of bulk at most 1048576: NARROWER than '..Said'. Prove '..Said' where nothing that the law and all that it calls make is longer than what came in: it says more and counts as full. Else prove '..UptoSaid'. A law counts once. -/
mutual
def uptoBulk {H : Type} : DataW H → Nat
  | .lit (.string bytes) => bytes.length + 1
  | .lit _ => 1
  | .nil => 1
  | .ptr d => uptoBulk d + 1
  | .slice elems spare => uptoBulkAll elems + uptoBulkAll spare + 1
  | .agg parts => uptoBulkAll parts + 1
  | .iface _ d => uptoBulk d + 1
  | .map entries => uptoBulkEntries entries + 1
  | .held _ => 1
def uptoBulkAll {H : Type} : List (DataW H) → Nat
  | [] => 0
  | d :: r => uptoBulk d + uptoBulkAll r
def uptoBulkEntries {H : Type} : List (Lit × DataW H) → Nat
  | [] => 0
  | x :: r => uptoBulkEntry x + uptoBulkEntries r
def uptoBulkEntry {H : Type} : Lit × DataW H → Nat
  | (.string bytes, d) => bytes.length + uptoBulk d + 1
  | (_, d) => uptoBulk d + 1
 end
def uptoSmall : (H : Type) → List (DataW H) → Bool := fun _ ds => decide (uptoBulkAll ds ≤ 1048576)
def OpenSpec.upto (s : _root_.Go.ChangeSpec) : _root_.Go.OpenSpec := { _root_.Go.OpenSpec.ofChange s with cond := some uptoSmall }

/-- 'wayfinderlaw32.LeverageResists', WHERE WHAT IT READS IS OF BULK AT MOST 1048576: true; the input reads as it did. -/
def leverageResistsUptoRow : OpenClaim := { program := "ytgopibpkgmafiaa", sum := "db12e3be39ab4e04525824c8a63592295240430b7c9be0c4de8cee35ca5a51a6", func := "wayfinder/wayfinderlaw32.LeverageResists", spec := "leverageResists", unfollowed := true, recurses := true, named := ["math/bits.overflowError"], apart := false, narrowed := true }
def LeverageResistsUptoSaid : Prop := leverageResistsUptoRow.holds Try.pinned (OpenSpec.upto leverageResistsSpec)

/-- 'wayfinderlaw32.LeverageTriangle', WHERE WHAT IT READS IS OF BULK AT MOST 1048576: true; the input reads as it did. -/
def leverageTriangleUptoRow : OpenClaim := { program := "ytgopibpkgmafiaa", sum := "db12e3be39ab4e04525824c8a63592295240430b7c9be0c4de8cee35ca5a51a6", func := "wayfinder/wayfinderlaw32.LeverageTriangle", spec := "leverageTriangle", unfollowed := true, recurses := true, named := ["math/bits.overflowError"], apart := false, narrowed := true }
def LeverageTriangleUptoSaid : Prop := leverageTriangleUptoRow.holds Try.pinned (OpenSpec.upto leverageTriangleSpec)

/-- 'wayfinderlaw32.LeverageMore', WHERE WHAT IT READS IS OF BULK AT MOST 1048576: true; the input reads as it did. -/
def leverageMoreUptoRow : OpenClaim := { program := "ytgopibpkgmafiaa", sum := "db12e3be39ab4e04525824c8a63592295240430b7c9be0c4de8cee35ca5a51a6", func := "wayfinder/wayfinderlaw32.LeverageMore", spec := "leverageMore", unfollowed := true, recurses := true, named := ["math/bits.overflowError"], apart := false, narrowed := true }
def LeverageMoreUptoSaid : Prop := leverageMoreUptoRow.holds Try.pinned (OpenSpec.upto leverageMoreSpec)

/-- 'wayfinderlaw32.LeverageShares', WHERE WHAT IT READS IS OF BULK AT MOST 1048576: true; the input reads as it did. -/
def leverageSharesUptoRow : OpenClaim := { program := "ytgopibpkgmafiaa", sum := "db12e3be39ab4e04525824c8a63592295240430b7c9be0c4de8cee35ca5a51a6", func := "wayfinder/wayfinderlaw32.LeverageShares", spec := "leverageShares", unfollowed := true, recurses := true, named := ["math/bits.overflowError"], apart := false, narrowed := true }
def LeverageSharesUptoSaid : Prop := leverageSharesUptoRow.holds Try.pinned (OpenSpec.upto leverageSharesSpec)

/-- 'wayfinderlaw32.LeverageForest', WHERE WHAT IT READS IS OF BULK AT MOST 1048576: true; the input reads as it did. -/
def leverageForestUptoRow : OpenClaim := { program := "ytgopibpkgmafiaa", sum := "db12e3be39ab4e04525824c8a63592295240430b7c9be0c4de8cee35ca5a51a6", func := "wayfinder/wayfinderlaw32.LeverageForest", spec := "leverageForest", unfollowed := true, recurses := true, named := ["math/bits.overflowError"], apart := false, narrowed := true }
def LeverageForestUptoSaid : Prop := leverageForestUptoRow.holds Try.pinned (OpenSpec.upto leverageForestSpec)

/-- 'wayfinderlaw32.LeverageFoster', WHERE WHAT IT READS IS OF BULK AT MOST 1048576: true; the input reads as it did. -/
def leverageFosterUptoRow : OpenClaim := { program := "ytgopibpkgmafiaa", sum := "db12e3be39ab4e04525824c8a63592295240430b7c9be0c4de8cee35ca5a51a6", func := "wayfinder/wayfinderlaw32.LeverageFoster", spec := "leverageFoster", unfollowed := true, recurses := true, named := ["math/bits.overflowError"], apart := false, narrowed := true }
def LeverageFosterUptoSaid : Prop := leverageFosterUptoRow.holds Try.pinned (OpenSpec.upto leverageFosterSpec)

end Rows
end Go.Proofs.Ytgopibpkgmafiaa
