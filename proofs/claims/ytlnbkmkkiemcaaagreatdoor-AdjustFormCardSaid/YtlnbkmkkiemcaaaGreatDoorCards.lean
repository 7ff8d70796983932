/-
  DERIVED. GIVEN WITH THE SEED: THE CARDS: each row of YtlnbkmkkiemcaaaGreatDoorRows.lean that lists a variable, with what it lists TIED to the program's text (the seventh form; the later family's looks); each row that meets fmt, with fmt's text TOLD by the authors' own Lean function (tested against real Go, not proved from fmt's source: count such statements apart). THE CARD IS WHAT COUNTS. Prove the row's statement (the work); the ties are given (YtlnbkmkkiemcaaaGreatDoorTie.lean); close each card by the builder's one call (the guide's Derived/Test/ToyasCard.lean, 'card_holds'). Laid BY PROGRAM, IN A SANDBOX (cutbox-door.mjs). By AI agents, Wed Nov 11 2026. No macro, syntax, notation, axiom, sorry.
-/
import Derived.Test.YtlnbkmkkiemcaaaGreatDoorRows
import GoSem.ClaimSeven
namespace Go.Proofs.YtlnbkmkkiemcaaaGreatDoor
namespace Rows

/-- THE TIED CARD OF 'wayfindertop.WholeMinimum'. -/
def wholeMinimumCard : Claim7 := { stood := { row := wholeMinimumRow, standIns := [], harness := (true, "21ba96489bbe117ae21b2518256a10a960acca6c22139899dac994d95e871329"), looks := false }, kinds := [], alts := [], laidByText := true, laidKinds := [.data, .data, .data], laidTests := true, laidLooks := .later }
def WholeMinimumCardSaid : Prop := Claim7.holds Tryz.pinned (.plain (OpenSpec.ofChange wholeMinimumSpec)) wholeMinimumCard

/-- THE TIED CARD OF 'wayfinderlaw31.AdjustLeast'. -/
def adjustLeastCard : Claim7 := { stood := { row := adjustLeastRow, standIns := [], harness := (true, "21ba96489bbe117ae21b2518256a10a960acca6c22139899dac994d95e871329"), looks := false }, kinds := [], alts := [], laidByText := true, laidKinds := [.data, .data, .data], laidTests := true, laidLooks := .later }
def AdjustLeastCardSaid : Prop := Claim7.holds Tryz.pinned (.plain (OpenSpec.ofChange adjustLeastSpec)) adjustLeastCard

/-- THE TIED CARD OF 'wayfinderlaw31.AdjustOrder'. -/
def adjustOrderCard : Claim7 := { stood := { row := adjustOrderRow, standIns := [], harness := (true, "21ba96489bbe117ae21b2518256a10a960acca6c22139899dac994d95e871329"), looks := false }, kinds := [], alts := [], laidByText := true, laidKinds := [.data, .data, .data], laidTests := true, laidLooks := .later }
def AdjustOrderCardSaid : Prop := Claim7.holds Tryz.pinned (.plain (OpenSpec.ofChange adjustOrderSpec)) adjustOrderCard

/-- THE TIED CARD OF 'wayfinderlaw31.AdjustMerges'. -/
def adjustMergesCard : Claim7 := { stood := { row := adjustMergesRow, standIns := [], harness := (true, "21ba96489bbe117ae21b2518256a10a960acca6c22139899dac994d95e871329"), looks := false }, kinds := [], alts := [], laidByText := true, laidKinds := [.data, .data, .data], laidTests := true, laidLooks := .later }
def AdjustMergesCardSaid : Prop := Claim7.holds Tryz.pinned (.plain (OpenSpec.ofChange adjustMergesSpec)) adjustMergesCard

/-- THE TIED CARD OF 'wayfinderlaw31.AdjustTruth'. -/
def adjustTruthCard : Claim7 := { stood := { row := adjustTruthRow, standIns := [], harness := (true, "21ba96489bbe117ae21b2518256a10a960acca6c22139899dac994d95e871329"), looks := false }, kinds := [], alts := [], laidByText := true, laidKinds := [.data, .data, .data], laidTests := true, laidLooks := .later }
def AdjustTruthCardSaid : Prop := Claim7.holds Tryz.pinned (.plain (OpenSpec.ofChange adjustTruthSpec)) adjustTruthCard

/-- THE TIED CARD OF 'wayfinderlaw31.AdjustAnswers'. -/
def adjustAnswersCard : Claim7 := { stood := { row := adjustAnswersRow, standIns := [], harness := (true, "21ba96489bbe117ae21b2518256a10a960acca6c22139899dac994d95e871329"), looks := false }, kinds := [], alts := [], laidByText := true, laidKinds := [.data, .data, .data], laidTests := true, laidLooks := .later }
def AdjustAnswersCardSaid : Prop := Claim7.holds Tryz.pinned (.plain (OpenSpec.ofChange adjustAnswersSpec)) adjustAnswersCard

/-- THE TIED CARD OF 'wayfinderlaw31.AdjustGradient'. -/
def adjustGradientCard : Claim7 := { stood := { row := adjustGradientRow, standIns := [], harness := (true, "21ba96489bbe117ae21b2518256a10a960acca6c22139899dac994d95e871329"), looks := false }, kinds := [], alts := [], laidByText := true, laidKinds := [.data, .data, .data], laidTests := true, laidLooks := .later }
def AdjustGradientCardSaid : Prop := Claim7.holds Tryz.pinned (.plain (OpenSpec.ofChange adjustGradientSpec)) adjustGradientCard

/-- THE TIED CARD OF 'wayfinderlaw31.AdjustForm'. -/
def adjustFormCard : Claim7 := { stood := { row := adjustFormRow, standIns := [], harness := (true, "21ba96489bbe117ae21b2518256a10a960acca6c22139899dac994d95e871329"), looks := false }, kinds := [], alts := [], laidByText := true, laidKinds := [.data, .data, .data], laidTests := true, laidLooks := .later }
def AdjustFormCardSaid : Prop := Claim7.holds Tryz.pinned (.plain (OpenSpec.ofChange adjustFormSpec)) adjustFormCard

/-- THE TIED CARD OF 'wayfinderlaw31.AdjustGrows'. -/
def adjustGrowsCard : Claim7 := { stood := { row := adjustGrowsRow, standIns := [], harness := (true, "21ba96489bbe117ae21b2518256a10a960acca6c22139899dac994d95e871329"), looks := false }, kinds := [], alts := [], laidByText := true, laidKinds := [.data, .data, .data], laidTests := true, laidLooks := .later }
def AdjustGrowsCardSaid : Prop := Claim7.holds Tryz.pinned (.plain (OpenSpec.ofChange adjustGrowsSpec)) adjustGrowsCard

/-- THE TIED CARD OF 'wayfinderlaw31.AdjustPlays'. -/
def adjustPlaysCard : Claim7 := { stood := { row := adjustPlaysRow, standIns := [], harness := (true, "21ba96489bbe117ae21b2518256a10a960acca6c22139899dac994d95e871329"), looks := false }, kinds := [], alts := [], laidByText := true, laidKinds := [.data, .data, .data], laidTests := true, laidLooks := .later }
def AdjustPlaysCardSaid : Prop := Claim7.holds Tryz.pinned (.plain (OpenSpec.ofChange adjustPlaysSpec)) adjustPlaysCard

/-- THE SECOND FORM's CARD OF 'wayfindertop.WholeMinimum'. -/
def wholeMinimumUptoCard : Claim7 := { stood := { row := wholeMinimumUptoRow, standIns := [], harness := (true, "21ba96489bbe117ae21b2518256a10a960acca6c22139899dac994d95e871329"), looks := false }, kinds := [], alts := [], laidByText := true, laidKinds := [.data, .data, .data], laidTests := true, laidLooks := .later }
def WholeMinimumUptoCardSaid : Prop := Claim7.holds Tryz.pinned (.plain (OpenSpec.upto wholeMinimumSpec)) wholeMinimumUptoCard

/-- THE SECOND FORM's CARD OF 'wayfinderlaw31.AdjustLeast'. -/
def adjustLeastUptoCard : Claim7 := { stood := { row := adjustLeastUptoRow, standIns := [], harness := (true, "21ba96489bbe117ae21b2518256a10a960acca6c22139899dac994d95e871329"), looks := false }, kinds := [], alts := [], laidByText := true, laidKinds := [.data, .data, .data], laidTests := true, laidLooks := .later }
def AdjustLeastUptoCardSaid : Prop := Claim7.holds Tryz.pinned (.plain (OpenSpec.upto adjustLeastSpec)) adjustLeastUptoCard

/-- THE SECOND FORM's CARD OF 'wayfinderlaw31.AdjustOrder'. -/
def adjustOrderUptoCard : Claim7 := { stood := { row := adjustOrderUptoRow, standIns := [], harness := (true, "21ba96489bbe117ae21b2518256a10a960acca6c22139899dac994d95e871329"), looks := false }, kinds := [], alts := [], laidByText := true, laidKinds := [.data, .data, .data], laidTests := true, laidLooks := .later }
def AdjustOrderUptoCardSaid : Prop := Claim7.holds Tryz.pinned (.plain (OpenSpec.upto adjustOrderSpec)) adjustOrderUptoCard

/-- THE SECOND FORM's CARD OF 'wayfinderlaw31.AdjustMerges'. -/
def adjustMergesUptoCard : Claim7 := { stood := { row := adjustMergesUptoRow, standIns := [], harness := (true, "21ba96489bbe117ae21b2518256a10a960acca6c22139899dac994d95e871329"), looks := false }, kinds := [], alts := [], laidByText := true, laidKinds := [.data, .data, .data], laidTests := true, laidLooks := .later }
def AdjustMergesUptoCardSaid : Prop := Claim7.holds Tryz.pinned (.plain (OpenSpec.upto adjustMergesSpec)) adjustMergesUptoCard

/-- THE SECOND FORM's CARD OF 'wayfinderlaw31.AdjustTruth'. -/
def adjustTruthUptoCard : Claim7 := { stood := { row := adjustTruthUptoRow, standIns := [], harness := (true, "21ba96489bbe117ae21b2518256a10a960acca6c22139899dac994d95e871329"), looks := false }, kinds := [], alts := [], laidByText := true, laidKinds := [.data, .data, .data], laidTests := true, laidLooks := .later }
def AdjustTruthUptoCardSaid : Prop := Claim7.holds Tryz.pinned (.plain (OpenSpec.upto adjustTruthSpec)) adjustTruthUptoCard

/-- THE SECOND FORM's CARD OF 'wayfinderlaw31.AdjustAnswers'. -/
def adjustAnswersUptoCard : Claim7 := { stood := { row := adjustAnswersUptoRow, standIns := [], harness := (true, "21ba96489bbe117ae21b2518256a10a960acca6c22139899dac994d95e871329"), looks := false }, kinds := [], alts := [], laidByText := true, laidKinds := [.data, .data, .data], laidTests := true, laidLooks := .later }
def AdjustAnswersUptoCardSaid : Prop := Claim7.holds Tryz.pinned (.plain (OpenSpec.upto adjustAnswersSpec)) adjustAnswersUptoCard

/-- THE SECOND FORM's CARD OF 'wayfinderlaw31.AdjustGradient'. -/
def adjustGradientUptoCard : Claim7 := { stood := { row := adjustGradientUptoRow, standIns := [], harness := (true, "21ba96489bbe117ae21b2518256a10a960acca6c22139899dac994d95e871329"), looks := false }, kinds := [], alts := [], laidByText := true, laidKinds := [.data, .data, .data], laidTests := true, laidLooks := .later }
def AdjustGradientUptoCardSaid : Prop := Claim7.holds Tryz.pinned (.plain (OpenSpec.upto adjustGradientSpec)) adjustGradientUptoCard

/-- THE SECOND FORM's CARD OF 'wayfinderlaw31.AdjustForm'. -/
def adjustFormUptoCard : Claim7 := { stood := { row := adjustFormUptoRow, standIns := [], harness := (true, "21ba96489bbe117ae21b2518256a10a960acca6c22139899dac994d95e871329"), looks := false }, kinds := [], alts := [], laidByText := true, laidKinds := [.data, .data, .data], laidTests := true, laidLooks := .later }
def AdjustFormUptoCardSaid : Prop := Claim7.holds Tryz.pinned (.plain (OpenSpec.upto adjustFormSpec)) adjustFormUptoCard

/-- THE SECOND FORM's CARD OF 'wayfinderlaw31.AdjustGrows'. -/
def adjustGrowsUptoCard : Claim7 := { stood := { row := adjustGrowsUptoRow, standIns := [], harness := (true, "21ba96489bbe117ae21b2518256a10a960acca6c22139899dac994d95e871329"), looks := false }, kinds := [], alts := [], laidByText := true, laidKinds := [.data, .data, .data], laidTests := true, laidLooks := .later }
def AdjustGrowsUptoCardSaid : Prop := Claim7.holds Tryz.pinned (.plain (OpenSpec.upto adjustGrowsSpec)) adjustGrowsUptoCard

/-- THE SECOND FORM's CARD OF 'wayfinderlaw31.AdjustPlays'. -/
def adjustPlaysUptoCard : Claim7 := { stood := { row := adjustPlaysUptoRow, standIns := [], harness := (true, "21ba96489bbe117ae21b2518256a10a960acca6c22139899dac994d95e871329"), looks := false }, kinds := [], alts := [], laidByText := true, laidKinds := [.data, .data, .data], laidTests := true, laidLooks := .later }
def AdjustPlaysUptoCardSaid : Prop := Claim7.holds Tryz.pinned (.plain (OpenSpec.upto adjustPlaysSpec)) adjustPlaysUptoCard
end Rows
end Go.Proofs.YtlnbkmkkiemcaaaGreatDoor
