/-
  DERIVED. GIVEN WITH THE SEED: THE CARDS: each row of YtomlkgcfagnngaaGreatDoorRows.lean that lists a variable, with what it lists TIED to the program's text (the seventh form; the later family's looks); each row that meets fmt, with fmt's text TOLD by the authors' own Lean function (tested against real Go, not proved from fmt's source: count such statements apart). THE CARD IS WHAT COUNTS. Prove the row's statement (the work); the ties are given (YtomlkgcfagnngaaGreatDoorTie.lean); close each card by the builder's one call (the guide's Derived/Test/ToyasCard.lean, 'card_holds'). Laid BY PROGRAM, IN A SANDBOX (cutbox-door.mjs). By AI agents, Wed Nov 11 2026. No macro, syntax, notation, axiom, sorry.
-/
import Derived.Test.YtomlkgcfagnngaaGreatDoorRows
import GoSem.ClaimSeven
namespace Go.Proofs.YtomlkgcfagnngaaGreatDoor
namespace Rows

/-- THE TIED CARD OF 'wayfinderlaw27.SolveFill'. -/
def solveFillCard : Claim7 := { stood := { row := solveFillRow, standIns := [], harness := (true, "f58e854b51840634ed84621e60c76d9cc59b31664338174e8bae0316055ffb19"), looks := false }, kinds := [], alts := [], laidByText := true, laidKinds := [.data, .data, .data], laidTests := true, laidLooks := .later }
def SolveFillCardSaid : Prop := Claim7.holds Tryz.pinned (.plain (OpenSpec.ofChange solveFillSpec)) solveFillCard

/-- THE TIED CARD OF 'wayfindertop.WholeTrees'. -/
def wholeTreesCard : Claim7 := { stood := { row := wholeTreesRow, standIns := [], harness := (true, "f58e854b51840634ed84621e60c76d9cc59b31664338174e8bae0316055ffb19"), looks := false }, kinds := [], alts := [], laidByText := true, laidKinds := [.data, .data, .data], laidTests := true, laidLooks := .later }
def WholeTreesCardSaid : Prop := Claim7.holds Tryz.pinned (.plain (OpenSpec.ofChange wholeTreesSpec)) wholeTreesCard

/-- THE SECOND FORM's CARD OF 'wayfinderlaw27.SolveFill'. -/
def solveFillUptoCard : Claim7 := { stood := { row := solveFillUptoRow, standIns := [], harness := (true, "f58e854b51840634ed84621e60c76d9cc59b31664338174e8bae0316055ffb19"), looks := false }, kinds := [], alts := [], laidByText := true, laidKinds := [.data, .data, .data], laidTests := true, laidLooks := .later }
def SolveFillUptoCardSaid : Prop := Claim7.holds Tryz.pinned (.plain (OpenSpec.upto solveFillSpec)) solveFillUptoCard

/-- THE SECOND FORM's CARD OF 'wayfindertop.WholeTrees'. -/
def wholeTreesUptoCard : Claim7 := { stood := { row := wholeTreesUptoRow, standIns := [], harness := (true, "f58e854b51840634ed84621e60c76d9cc59b31664338174e8bae0316055ffb19"), looks := false }, kinds := [], alts := [], laidByText := true, laidKinds := [.data, .data, .data], laidTests := true, laidLooks := .later }
def WholeTreesUptoCardSaid : Prop := Claim7.holds Tryz.pinned (.plain (OpenSpec.upto wholeTreesSpec)) wholeTreesUptoCard
end Rows
end Go.Proofs.YtomlkgcfagnngaaGreatDoor
