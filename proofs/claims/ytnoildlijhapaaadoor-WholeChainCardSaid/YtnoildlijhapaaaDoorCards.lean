/-
  DERIVED. GIVEN WITH THE SEED: THE CARDS: each row of YtnoildlijhapaaaDoorRows.lean that lists a variable, with what it lists TIED to the program's text (the seventh form; the later family's looks); each row that meets fmt, with fmt's text TOLD by the authors' own Lean function (tested against real Go, not proved from fmt's source: count such statements apart). THE CARD IS WHAT COUNTS. Prove the row's statement (the work); the ties are given (YtnoildlijhapaaaDoorTie.lean); close each card by the builder's one call (the guide's Derived/Test/ToyasCard.lean, 'card_holds'). Laid BY PROGRAM, IN A SANDBOX (cutbox-door.mjs). By AI agents, Wed Nov 11 2026. No macro, syntax, notation, axiom, sorry.
-/
import Derived.Test.YtnoildlijhapaaaDoorRows
import GoSem.ClaimSeven
namespace Go.Proofs.YtnoildlijhapaaaDoor
namespace Rows

/-- THE TIED CARD OF 'wayfindertop.WholeChain'. -/
def wholeChainCard : Claim7 := { stood := { row := wholeChainRow, standIns := [], harness := (true, "d2995c1e8613384c8af22d4c7bad875bd8767e009f9f780fd5af4d072ec273a2"), looks := false }, kinds := [], alts := [], laidByText := true, laidKinds := [.data, .data, .data], laidTests := true, laidLooks := .later }
def WholeChainCardSaid : Prop := Claim7.holds Tryd.pinned (.plain (OpenSpec.ofChange wholeChainSpec)) wholeChainCard

/-- THE SECOND FORM's CARD OF 'wayfindertop.WholeChain'. -/
def wholeChainUptoCard : Claim7 := { stood := { row := wholeChainUptoRow, standIns := [], harness := (true, "d2995c1e8613384c8af22d4c7bad875bd8767e009f9f780fd5af4d072ec273a2"), looks := false }, kinds := [], alts := [], laidByText := true, laidKinds := [.data, .data, .data], laidTests := true, laidLooks := .later }
def WholeChainUptoCardSaid : Prop := Claim7.holds Tryd.pinned (.plain (OpenSpec.upto wholeChainSpec)) wholeChainUptoCard
end Rows
end Go.Proofs.YtnoildlijhapaaaDoor
