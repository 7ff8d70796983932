/-
  DERIVED. GIVEN WITH THE SEED: THE CARDS: each row of YtnoildlijhapaaaGreatDoorRows.lean that lists a variable, with what it lists TIED to the program's text (the seventh form; the later family's looks); each row that meets fmt, with fmt's text TOLD by the authors' own Lean function (tested against real Go, not proved from fmt's source: count such statements apart). THE CARD IS WHAT COUNTS. Prove the row's statement (the work); the ties are given (YtnoildlijhapaaaGreatDoorTie.lean); close each card by the builder's one call (the guide's Derived/Test/ToyasCard.lean, 'card_holds'). Laid BY PROGRAM, IN A SANDBOX (cutbox-door.mjs). By AI agents, Wed Nov 11 2026. No macro, syntax, notation, axiom, sorry.
-/
import Derived.Test.YtnoildlijhapaaaGreatDoorRows
import GoSem.ClaimSeven
namespace Go.Proofs.YtnoildlijhapaaaGreatDoor
namespace Rows

/-- THE TIED CARD OF 'wayfinderlaw30.ClosureReckons'. -/
def closureReckonsCard : Claim7 := { stood := { row := closureReckonsRow, standIns := [], harness := (true, "4e77effd13a90b473d051509d7ffbae52b67c8bc8332b471a169635064bf90f9"), looks := false }, kinds := [], alts := [], laidByText := true, laidKinds := [.data, .data, .data], laidTests := true, laidLooks := .later }
def ClosureReckonsCardSaid : Prop := Claim7.holds Tryz.pinned (.plain (OpenSpec.ofChange closureReckonsSpec)) closureReckonsCard

/-- THE TIED CARD OF 'wayfinderlaw30.ClosureOffsets'. -/
def closureOffsetsCard : Claim7 := { stood := { row := closureOffsetsRow, standIns := [], harness := (true, "4e77effd13a90b473d051509d7ffbae52b67c8bc8332b471a169635064bf90f9"), looks := false }, kinds := [], alts := [], laidByText := true, laidKinds := [.data, .data, .data], laidTests := true, laidLooks := .later }
def ClosureOffsetsCardSaid : Prop := Claim7.holds Tryz.pinned (.plain (OpenSpec.ofChange closureOffsetsSpec)) closureOffsetsCard

/-- THE TIED CARD OF 'wayfinderlaw30.ClosureSelects'. -/
def closureSelectsCard : Claim7 := { stood := { row := closureSelectsRow, standIns := [], harness := (true, "4e77effd13a90b473d051509d7ffbae52b67c8bc8332b471a169635064bf90f9"), looks := false }, kinds := [], alts := [], laidByText := true, laidKinds := [.data, .data, .data], laidTests := true, laidLooks := .later }
def ClosureSelectsCardSaid : Prop := Claim7.holds Tryz.pinned (.plain (OpenSpec.ofChange closureSelectsSpec)) closureSelectsCard

/-- THE TIED CARD OF 'wayfinderlaw30.ClosureCommon'. -/
def closureCommonCard : Claim7 := { stood := { row := closureCommonRow, standIns := [], harness := (true, "4e77effd13a90b473d051509d7ffbae52b67c8bc8332b471a169635064bf90f9"), looks := false }, kinds := [], alts := [], laidByText := true, laidKinds := [.data, .data, .data], laidTests := true, laidLooks := .later }
def ClosureCommonCardSaid : Prop := Claim7.holds Tryz.pinned (.plain (OpenSpec.ofChange closureCommonSpec)) closureCommonCard

/-- THE TIED CARD OF 'wayfinderlaw30.ClosureHelly'. -/
def closureHellyCard : Claim7 := { stood := { row := closureHellyRow, standIns := [], harness := (true, "4e77effd13a90b473d051509d7ffbae52b67c8bc8332b471a169635064bf90f9"), looks := false }, kinds := [], alts := [], laidByText := true, laidKinds := [.data, .data, .data], laidTests := true, laidLooks := .later }
def ClosureHellyCardSaid : Prop := Claim7.holds Tryz.pinned (.plain (OpenSpec.ofChange closureHellySpec)) closureHellyCard

/-- THE TIED CARD OF 'wayfinderlaw30.ClosureLargest'. -/
def closureLargestCard : Claim7 := { stood := { row := closureLargestRow, standIns := [], harness := (true, "4e77effd13a90b473d051509d7ffbae52b67c8bc8332b471a169635064bf90f9"), looks := false }, kinds := [], alts := [], laidByText := true, laidKinds := [.data, .data, .data], laidTests := true, laidLooks := .later }
def ClosureLargestCardSaid : Prop := Claim7.holds Tryz.pinned (.plain (OpenSpec.ofChange closureLargestSpec)) closureLargestCard

/-- THE TIED CARD OF 'wayfinderlaw30.ClosureWider'. -/
def closureWiderCard : Claim7 := { stood := { row := closureWiderRow, standIns := [], harness := (true, "4e77effd13a90b473d051509d7ffbae52b67c8bc8332b471a169635064bf90f9"), looks := false }, kinds := [], alts := [], laidByText := true, laidKinds := [.data, .data, .data], laidTests := true, laidLooks := .later }
def ClosureWiderCardSaid : Prop := Claim7.holds Tryz.pinned (.plain (OpenSpec.ofChange closureWiderSpec)) closureWiderCard

/-- THE TIED CARD OF 'wayfinderlaw30.ClosureTruth'. -/
def closureTruthCard : Claim7 := { stood := { row := closureTruthRow, standIns := [], harness := (true, "4e77effd13a90b473d051509d7ffbae52b67c8bc8332b471a169635064bf90f9"), looks := false }, kinds := [], alts := [], laidByText := true, laidKinds := [.data, .data, .data], laidTests := true, laidLooks := .later }
def ClosureTruthCardSaid : Prop := Claim7.holds Tryz.pinned (.plain (OpenSpec.ofChange closureTruthSpec)) closureTruthCard

/-- THE TIED CARD OF 'wayfinderlaw30.ClosureResiduals'. -/
def closureResidualsCard : Claim7 := { stood := { row := closureResidualsRow, standIns := [], harness := (true, "4e77effd13a90b473d051509d7ffbae52b67c8bc8332b471a169635064bf90f9"), looks := false }, kinds := [], alts := [], laidByText := true, laidKinds := [.data, .data, .data], laidTests := true, laidLooks := .later }
def ClosureResidualsCardSaid : Prop := Claim7.holds Tryz.pinned (.plain (OpenSpec.ofChange closureResidualsSpec)) closureResidualsCard

/-- THE TIED CARD OF 'wayfinderlaw30.ClosureWith'. -/
def closureWithCard : Claim7 := { stood := { row := closureWithRow, standIns := [], harness := (true, "4e77effd13a90b473d051509d7ffbae52b67c8bc8332b471a169635064bf90f9"), looks := false }, kinds := [], alts := [], laidByText := true, laidKinds := [.data, .data, .data], laidTests := true, laidLooks := .later }
def ClosureWithCardSaid : Prop := Claim7.holds Tryz.pinned (.plain (OpenSpec.ofChange closureWithSpec)) closureWithCard

/-- THE TIED CARD OF 'wayfindertop.WholeClosures'. -/
def wholeClosuresCard : Claim7 := { stood := { row := wholeClosuresRow, standIns := [], harness := (true, "4e77effd13a90b473d051509d7ffbae52b67c8bc8332b471a169635064bf90f9"), looks := false }, kinds := [], alts := [], laidByText := true, laidKinds := [.data, .data, .data], laidTests := true, laidLooks := .later }
def WholeClosuresCardSaid : Prop := Claim7.holds Tryz.pinned (.plain (OpenSpec.ofChange wholeClosuresSpec)) wholeClosuresCard

/-- THE TIED CARD OF 'wayfindertop.WholeMinimum'. -/
def wholeMinimumCard : Claim7 := { stood := { row := wholeMinimumRow, standIns := [], harness := (true, "4e77effd13a90b473d051509d7ffbae52b67c8bc8332b471a169635064bf90f9"), looks := false }, kinds := [], alts := [], laidByText := true, laidKinds := [.data, .data, .data], laidTests := true, laidLooks := .later }
def WholeMinimumCardSaid : Prop := Claim7.holds Tryz.pinned (.plain (OpenSpec.ofChange wholeMinimumSpec)) wholeMinimumCard

/-- THE SECOND FORM's CARD OF 'wayfinderlaw30.ClosureReckons'. -/
def closureReckonsUptoCard : Claim7 := { stood := { row := closureReckonsUptoRow, standIns := [], harness := (true, "4e77effd13a90b473d051509d7ffbae52b67c8bc8332b471a169635064bf90f9"), looks := false }, kinds := [], alts := [], laidByText := true, laidKinds := [.data, .data, .data], laidTests := true, laidLooks := .later }
def ClosureReckonsUptoCardSaid : Prop := Claim7.holds Tryz.pinned (.plain (OpenSpec.upto closureReckonsSpec)) closureReckonsUptoCard

/-- THE SECOND FORM's CARD OF 'wayfinderlaw30.ClosureOffsets'. -/
def closureOffsetsUptoCard : Claim7 := { stood := { row := closureOffsetsUptoRow, standIns := [], harness := (true, "4e77effd13a90b473d051509d7ffbae52b67c8bc8332b471a169635064bf90f9"), looks := false }, kinds := [], alts := [], laidByText := true, laidKinds := [.data, .data, .data], laidTests := true, laidLooks := .later }
def ClosureOffsetsUptoCardSaid : Prop := Claim7.holds Tryz.pinned (.plain (OpenSpec.upto closureOffsetsSpec)) closureOffsetsUptoCard

/-- THE SECOND FORM's CARD OF 'wayfinderlaw30.ClosureSelects'. -/
def closureSelectsUptoCard : Claim7 := { stood := { row := closureSelectsUptoRow, standIns := [], harness := (true, "4e77effd13a90b473d051509d7ffbae52b67c8bc8332b471a169635064bf90f9"), looks := false }, kinds := [], alts := [], laidByText := true, laidKinds := [.data, .data, .data], laidTests := true, laidLooks := .later }
def ClosureSelectsUptoCardSaid : Prop := Claim7.holds Tryz.pinned (.plain (OpenSpec.upto closureSelectsSpec)) closureSelectsUptoCard

/-- THE SECOND FORM's CARD OF 'wayfinderlaw30.ClosureCommon'. -/
def closureCommonUptoCard : Claim7 := { stood := { row := closureCommonUptoRow, standIns := [], harness := (true, "4e77effd13a90b473d051509d7ffbae52b67c8bc8332b471a169635064bf90f9"), looks := false }, kinds := [], alts := [], laidByText := true, laidKinds := [.data, .data, .data], laidTests := true, laidLooks := .later }
def ClosureCommonUptoCardSaid : Prop := Claim7.holds Tryz.pinned (.plain (OpenSpec.upto closureCommonSpec)) closureCommonUptoCard

/-- THE SECOND FORM's CARD OF 'wayfinderlaw30.ClosureHelly'. -/
def closureHellyUptoCard : Claim7 := { stood := { row := closureHellyUptoRow, standIns := [], harness := (true, "4e77effd13a90b473d051509d7ffbae52b67c8bc8332b471a169635064bf90f9"), looks := false }, kinds := [], alts := [], laidByText := true, laidKinds := [.data, .data, .data], laidTests := true, laidLooks := .later }
def ClosureHellyUptoCardSaid : Prop := Claim7.holds Tryz.pinned (.plain (OpenSpec.upto closureHellySpec)) closureHellyUptoCard

/-- THE SECOND FORM's CARD OF 'wayfinderlaw30.ClosureLargest'. -/
def closureLargestUptoCard : Claim7 := { stood := { row := closureLargestUptoRow, standIns := [], harness := (true, "4e77effd13a90b473d051509d7ffbae52b67c8bc8332b471a169635064bf90f9"), looks := false }, kinds := [], alts := [], laidByText := true, laidKinds := [.data, .data, .data], laidTests := true, laidLooks := .later }
def ClosureLargestUptoCardSaid : Prop := Claim7.holds Tryz.pinned (.plain (OpenSpec.upto closureLargestSpec)) closureLargestUptoCard

/-- THE SECOND FORM's CARD OF 'wayfinderlaw30.ClosureWider'. -/
def closureWiderUptoCard : Claim7 := { stood := { row := closureWiderUptoRow, standIns := [], harness := (true, "4e77effd13a90b473d051509d7ffbae52b67c8bc8332b471a169635064bf90f9"), looks := false }, kinds := [], alts := [], laidByText := true, laidKinds := [.data, .data, .data], laidTests := true, laidLooks := .later }
def ClosureWiderUptoCardSaid : Prop := Claim7.holds Tryz.pinned (.plain (OpenSpec.upto closureWiderSpec)) closureWiderUptoCard

/-- THE SECOND FORM's CARD OF 'wayfinderlaw30.ClosureTruth'. -/
def closureTruthUptoCard : Claim7 := { stood := { row := closureTruthUptoRow, standIns := [], harness := (true, "4e77effd13a90b473d051509d7ffbae52b67c8bc8332b471a169635064bf90f9"), looks := false }, kinds := [], alts := [], laidByText := true, laidKinds := [.data, .data, .data], laidTests := true, laidLooks := .later }
def ClosureTruthUptoCardSaid : Prop := Claim7.holds Tryz.pinned (.plain (OpenSpec.upto closureTruthSpec)) closureTruthUptoCard

/-- THE SECOND FORM's CARD OF 'wayfinderlaw30.ClosureResiduals'. -/
def closureResidualsUptoCard : Claim7 := { stood := { row := closureResidualsUptoRow, standIns := [], harness := (true, "4e77effd13a90b473d051509d7ffbae52b67c8bc8332b471a169635064bf90f9"), looks := false }, kinds := [], alts := [], laidByText := true, laidKinds := [.data, .data, .data], laidTests := true, laidLooks := .later }
def ClosureResidualsUptoCardSaid : Prop := Claim7.holds Tryz.pinned (.plain (OpenSpec.upto closureResidualsSpec)) closureResidualsUptoCard

/-- THE SECOND FORM's CARD OF 'wayfinderlaw30.ClosureWith'. -/
def closureWithUptoCard : Claim7 := { stood := { row := closureWithUptoRow, standIns := [], harness := (true, "4e77effd13a90b473d051509d7ffbae52b67c8bc8332b471a169635064bf90f9"), looks := false }, kinds := [], alts := [], laidByText := true, laidKinds := [.data, .data, .data], laidTests := true, laidLooks := .later }
def ClosureWithUptoCardSaid : Prop := Claim7.holds Tryz.pinned (.plain (OpenSpec.upto closureWithSpec)) closureWithUptoCard

/-- THE SECOND FORM's CARD OF 'wayfindertop.WholeClosures'. -/
def wholeClosuresUptoCard : Claim7 := { stood := { row := wholeClosuresUptoRow, standIns := [], harness := (true, "4e77effd13a90b473d051509d7ffbae52b67c8bc8332b471a169635064bf90f9"), looks := false }, kinds := [], alts := [], laidByText := true, laidKinds := [.data, .data, .data], laidTests := true, laidLooks := .later }
def WholeClosuresUptoCardSaid : Prop := Claim7.holds Tryz.pinned (.plain (OpenSpec.upto wholeClosuresSpec)) wholeClosuresUptoCard

/-- THE SECOND FORM's CARD OF 'wayfindertop.WholeMinimum'. -/
def wholeMinimumUptoCard : Claim7 := { stood := { row := wholeMinimumUptoRow, standIns := [], harness := (true, "4e77effd13a90b473d051509d7ffbae52b67c8bc8332b471a169635064bf90f9"), looks := false }, kinds := [], alts := [], laidByText := true, laidKinds := [.data, .data, .data], laidTests := true, laidLooks := .later }
def WholeMinimumUptoCardSaid : Prop := Claim7.holds Tryz.pinned (.plain (OpenSpec.upto wholeMinimumSpec)) wholeMinimumUptoCard
end Rows
end Go.Proofs.YtnoildlijhapaaaGreatDoor
