/-
  DERIVED. GIVEN WITH THE SEED: THE CARDS: each row of YtfichkokppbipaaGreatDoorRows.lean that lists a variable, with what it lists TIED to the program's text (the seventh form; the later family's looks); each row that meets fmt, with fmt's text TOLD by the authors' own Lean function (tested against real Go, not proved from fmt's source: count such statements apart). THE CARD IS WHAT COUNTS. Prove the row's statement (the work); the ties are given (YtfichkokppbipaaGreatDoorTie.lean); close each card by the builder's one call (the guide's Derived/Test/ToyasCard.lean, 'card_holds'). Laid BY PROGRAM, IN A SANDBOX (cutbox-door.mjs). By AI agents, Wed Nov 11 2026. No macro, syntax, notation, axiom, sorry.
-/
import Derived.Test.YtfichkokppbipaaGreatDoorRows
import GoSem.ClaimSeven
namespace Go.Proofs.YtfichkokppbipaaGreatDoor
namespace Rows

/-- THE TIED CARD OF 'wayfinderlaw31.AdjustAnswers'. -/
def adjustAnswersCard : Claim7 := { stood := { row := adjustAnswersRow, standIns := [], harness := (true, "f5eb1bd88c2aa82ca67d0b1ea9b43bc394cadadac30678db681cd41c87eaaafa"), looks := false }, kinds := [], alts := [], laidByText := true, laidKinds := [.data, .data, .data], laidTests := true, laidLooks := .later }
def AdjustAnswersCardSaid : Prop := Claim7.holds Tryz.pinned (.plain (OpenSpec.ofChange adjustAnswersSpec)) adjustAnswersCard

/-- THE TIED CARD OF 'wayfinderlaw27.SolveFactors'. -/
def solveFactorsCard : Claim7 := { stood := { row := solveFactorsRow, standIns := [], harness := (true, "f5eb1bd88c2aa82ca67d0b1ea9b43bc394cadadac30678db681cd41c87eaaafa"), looks := false }, kinds := [], alts := [], laidByText := true, laidKinds := [.data, .data, .data], laidTests := true, laidLooks := .later }
def SolveFactorsCardSaid : Prop := Claim7.holds Tryz.pinned (.plain (OpenSpec.ofChange solveFactorsSpec)) solveFactorsCard

/-- THE TIED CARD OF 'wayfinderlaw27.SolveRenumbers'. -/
def solveRenumbersCard : Claim7 := { stood := { row := solveRenumbersRow, standIns := [], harness := (true, "f5eb1bd88c2aa82ca67d0b1ea9b43bc394cadadac30678db681cd41c87eaaafa"), looks := false }, kinds := [], alts := [], laidByText := true, laidKinds := [.data, .data, .data], laidTests := true, laidLooks := .later }
def SolveRenumbersCardSaid : Prop := Claim7.holds Tryz.pinned (.plain (OpenSpec.ofChange solveRenumbersSpec)) solveRenumbersCard

/-- THE TIED CARD OF 'wayfinderlaw27.SolveSatisfies'. -/
def solveSatisfiesCard : Claim7 := { stood := { row := solveSatisfiesRow, standIns := [], harness := (true, "f5eb1bd88c2aa82ca67d0b1ea9b43bc394cadadac30678db681cd41c87eaaafa"), looks := false }, kinds := [], alts := [], laidByText := true, laidKinds := [.data, .data, .data], laidTests := true, laidLooks := .later }
def SolveSatisfiesCardSaid : Prop := Claim7.holds Tryz.pinned (.plain (OpenSpec.ofChange solveSatisfiesSpec)) solveSatisfiesCard

/-- THE TIED CARD OF 'wayfinderlaw27.SolveSolves'. -/
def solveSolvesCard : Claim7 := { stood := { row := solveSolvesRow, standIns := [], harness := (true, "f5eb1bd88c2aa82ca67d0b1ea9b43bc394cadadac30678db681cd41c87eaaafa"), looks := false }, kinds := [], alts := [], laidByText := true, laidKinds := [.data, .data, .data], laidTests := true, laidLooks := .later }
def SolveSolvesCardSaid : Prop := Claim7.holds Tryz.pinned (.plain (OpenSpec.ofChange solveSolvesSpec)) solveSolvesCard

/-- THE TIED CARD OF 'wayfinderlaw27.SolveProduct'. -/
def solveProductCard : Claim7 := { stood := { row := solveProductRow, standIns := [], harness := (true, "f5eb1bd88c2aa82ca67d0b1ea9b43bc394cadadac30678db681cd41c87eaaafa"), looks := false }, kinds := [], alts := [], laidByText := true, laidKinds := [.data, .data, .data], laidTests := true, laidLooks := .later }
def SolveProductCardSaid : Prop := Claim7.holds Tryz.pinned (.plain (OpenSpec.ofChange solveProductSpec)) solveProductCard

/-- THE TIED CARD OF 'wayfinderlaw27.SolveMinors'. -/
def solveMinorsCard : Claim7 := { stood := { row := solveMinorsRow, standIns := [], harness := (true, "f5eb1bd88c2aa82ca67d0b1ea9b43bc394cadadac30678db681cd41c87eaaafa"), looks := false }, kinds := [], alts := [], laidByText := true, laidKinds := [.data, .data, .data], laidTests := true, laidLooks := .later }
def SolveMinorsCardSaid : Prop := Claim7.holds Tryz.pinned (.plain (OpenSpec.ofChange solveMinorsSpec)) solveMinorsCard

/-- THE TIED CARD OF 'wayfinderlaw27.SolveSylvester'. -/
def solveSylvesterCard : Claim7 := { stood := { row := solveSylvesterRow, standIns := [], harness := (true, "f5eb1bd88c2aa82ca67d0b1ea9b43bc394cadadac30678db681cd41c87eaaafa"), looks := false }, kinds := [], alts := [], laidByText := true, laidKinds := [.data, .data, .data], laidTests := true, laidLooks := .later }
def SolveSylvesterCardSaid : Prop := Claim7.holds Tryz.pinned (.plain (OpenSpec.ofChange solveSylvesterSpec)) solveSylvesterCard

/-- THE TIED CARD OF 'wayfinderlaw27.SolvePositive'. -/
def solvePositiveCard : Claim7 := { stood := { row := solvePositiveRow, standIns := [], harness := (true, "f5eb1bd88c2aa82ca67d0b1ea9b43bc394cadadac30678db681cd41c87eaaafa"), looks := false }, kinds := [], alts := [], laidByText := true, laidKinds := [.data, .data, .data], laidTests := true, laidLooks := .later }
def SolvePositiveCardSaid : Prop := Claim7.holds Tryz.pinned (.plain (OpenSpec.ofChange solvePositiveSpec)) solvePositiveCard

/-- THE TIED CARD OF 'wayfinderlaw27.SolveFill'. -/
def solveFillCard : Claim7 := { stood := { row := solveFillRow, standIns := [], harness := (true, "f5eb1bd88c2aa82ca67d0b1ea9b43bc394cadadac30678db681cd41c87eaaafa"), looks := false }, kinds := [], alts := [], laidByText := true, laidKinds := [.data, .data, .data], laidTests := true, laidLooks := .later }
def SolveFillCardSaid : Prop := Claim7.holds Tryz.pinned (.plain (OpenSpec.ofChange solveFillSpec)) solveFillCard

/-- THE TIED CARD OF 'wayfindertop.WholeTrees'. -/
def wholeTreesCard : Claim7 := { stood := { row := wholeTreesRow, standIns := [], harness := (true, "f5eb1bd88c2aa82ca67d0b1ea9b43bc394cadadac30678db681cd41c87eaaafa"), looks := false }, kinds := [], alts := [], laidByText := true, laidKinds := [.data, .data, .data], laidTests := true, laidLooks := .later }
def WholeTreesCardSaid : Prop := Claim7.holds Tryz.pinned (.plain (OpenSpec.ofChange wholeTreesSpec)) wholeTreesCard

/-- THE SECOND FORM's CARD OF 'wayfinderlaw31.AdjustAnswers'. -/
def adjustAnswersUptoCard : Claim7 := { stood := { row := adjustAnswersUptoRow, standIns := [], harness := (true, "f5eb1bd88c2aa82ca67d0b1ea9b43bc394cadadac30678db681cd41c87eaaafa"), looks := false }, kinds := [], alts := [], laidByText := true, laidKinds := [.data, .data, .data], laidTests := true, laidLooks := .later }
def AdjustAnswersUptoCardSaid : Prop := Claim7.holds Tryz.pinned (.plain (OpenSpec.upto adjustAnswersSpec)) adjustAnswersUptoCard

/-- THE SECOND FORM's CARD OF 'wayfinderlaw27.SolveFactors'. -/
def solveFactorsUptoCard : Claim7 := { stood := { row := solveFactorsUptoRow, standIns := [], harness := (true, "f5eb1bd88c2aa82ca67d0b1ea9b43bc394cadadac30678db681cd41c87eaaafa"), looks := false }, kinds := [], alts := [], laidByText := true, laidKinds := [.data, .data, .data], laidTests := true, laidLooks := .later }
def SolveFactorsUptoCardSaid : Prop := Claim7.holds Tryz.pinned (.plain (OpenSpec.upto solveFactorsSpec)) solveFactorsUptoCard

/-- THE SECOND FORM's CARD OF 'wayfinderlaw27.SolveRenumbers'. -/
def solveRenumbersUptoCard : Claim7 := { stood := { row := solveRenumbersUptoRow, standIns := [], harness := (true, "f5eb1bd88c2aa82ca67d0b1ea9b43bc394cadadac30678db681cd41c87eaaafa"), looks := false }, kinds := [], alts := [], laidByText := true, laidKinds := [.data, .data, .data], laidTests := true, laidLooks := .later }
def SolveRenumbersUptoCardSaid : Prop := Claim7.holds Tryz.pinned (.plain (OpenSpec.upto solveRenumbersSpec)) solveRenumbersUptoCard

/-- THE SECOND FORM's CARD OF 'wayfinderlaw27.SolveSatisfies'. -/
def solveSatisfiesUptoCard : Claim7 := { stood := { row := solveSatisfiesUptoRow, standIns := [], harness := (true, "f5eb1bd88c2aa82ca67d0b1ea9b43bc394cadadac30678db681cd41c87eaaafa"), looks := false }, kinds := [], alts := [], laidByText := true, laidKinds := [.data, .data, .data], laidTests := true, laidLooks := .later }
def SolveSatisfiesUptoCardSaid : Prop := Claim7.holds Tryz.pinned (.plain (OpenSpec.upto solveSatisfiesSpec)) solveSatisfiesUptoCard

/-- THE SECOND FORM's CARD OF 'wayfinderlaw27.SolveSolves'. -/
def solveSolvesUptoCard : Claim7 := { stood := { row := solveSolvesUptoRow, standIns := [], harness := (true, "f5eb1bd88c2aa82ca67d0b1ea9b43bc394cadadac30678db681cd41c87eaaafa"), looks := false }, kinds := [], alts := [], laidByText := true, laidKinds := [.data, .data, .data], laidTests := true, laidLooks := .later }
def SolveSolvesUptoCardSaid : Prop := Claim7.holds Tryz.pinned (.plain (OpenSpec.upto solveSolvesSpec)) solveSolvesUptoCard

/-- THE SECOND FORM's CARD OF 'wayfinderlaw27.SolveProduct'. -/
def solveProductUptoCard : Claim7 := { stood := { row := solveProductUptoRow, standIns := [], harness := (true, "f5eb1bd88c2aa82ca67d0b1ea9b43bc394cadadac30678db681cd41c87eaaafa"), looks := false }, kinds := [], alts := [], laidByText := true, laidKinds := [.data, .data, .data], laidTests := true, laidLooks := .later }
def SolveProductUptoCardSaid : Prop := Claim7.holds Tryz.pinned (.plain (OpenSpec.upto solveProductSpec)) solveProductUptoCard

/-- THE SECOND FORM's CARD OF 'wayfinderlaw27.SolveMinors'. -/
def solveMinorsUptoCard : Claim7 := { stood := { row := solveMinorsUptoRow, standIns := [], harness := (true, "f5eb1bd88c2aa82ca67d0b1ea9b43bc394cadadac30678db681cd41c87eaaafa"), looks := false }, kinds := [], alts := [], laidByText := true, laidKinds := [.data, .data, .data], laidTests := true, laidLooks := .later }
def SolveMinorsUptoCardSaid : Prop := Claim7.holds Tryz.pinned (.plain (OpenSpec.upto solveMinorsSpec)) solveMinorsUptoCard

/-- THE SECOND FORM's CARD OF 'wayfinderlaw27.SolveSylvester'. -/
def solveSylvesterUptoCard : Claim7 := { stood := { row := solveSylvesterUptoRow, standIns := [], harness := (true, "f5eb1bd88c2aa82ca67d0b1ea9b43bc394cadadac30678db681cd41c87eaaafa"), looks := false }, kinds := [], alts := [], laidByText := true, laidKinds := [.data, .data, .data], laidTests := true, laidLooks := .later }
def SolveSylvesterUptoCardSaid : Prop := Claim7.holds Tryz.pinned (.plain (OpenSpec.upto solveSylvesterSpec)) solveSylvesterUptoCard

/-- THE SECOND FORM's CARD OF 'wayfinderlaw27.SolvePositive'. -/
def solvePositiveUptoCard : Claim7 := { stood := { row := solvePositiveUptoRow, standIns := [], harness := (true, "f5eb1bd88c2aa82ca67d0b1ea9b43bc394cadadac30678db681cd41c87eaaafa"), looks := false }, kinds := [], alts := [], laidByText := true, laidKinds := [.data, .data, .data], laidTests := true, laidLooks := .later }
def SolvePositiveUptoCardSaid : Prop := Claim7.holds Tryz.pinned (.plain (OpenSpec.upto solvePositiveSpec)) solvePositiveUptoCard

/-- THE SECOND FORM's CARD OF 'wayfinderlaw27.SolveFill'. -/
def solveFillUptoCard : Claim7 := { stood := { row := solveFillUptoRow, standIns := [], harness := (true, "f5eb1bd88c2aa82ca67d0b1ea9b43bc394cadadac30678db681cd41c87eaaafa"), looks := false }, kinds := [], alts := [], laidByText := true, laidKinds := [.data, .data, .data], laidTests := true, laidLooks := .later }
def SolveFillUptoCardSaid : Prop := Claim7.holds Tryz.pinned (.plain (OpenSpec.upto solveFillSpec)) solveFillUptoCard

/-- THE SECOND FORM's CARD OF 'wayfindertop.WholeTrees'. -/
def wholeTreesUptoCard : Claim7 := { stood := { row := wholeTreesUptoRow, standIns := [], harness := (true, "f5eb1bd88c2aa82ca67d0b1ea9b43bc394cadadac30678db681cd41c87eaaafa"), looks := false }, kinds := [], alts := [], laidByText := true, laidKinds := [.data, .data, .data], laidTests := true, laidLooks := .later }
def WholeTreesUptoCardSaid : Prop := Claim7.holds Tryz.pinned (.plain (OpenSpec.upto wholeTreesSpec)) wholeTreesUptoCard
end Rows
end Go.Proofs.YtfichkokppbipaaGreatDoor
