/-
  DERIVED. GIVEN WITH THE SEED: THE CARDS: each row of YtceacleokgoooaaGreatDoorRows.lean that lists a variable, with what it lists TIED to the program's text (the seventh form; the later family's looks); each row that meets fmt, with fmt's text TOLD by the authors' own Lean function (tested against real Go, not proved from fmt's source: count such statements apart). THE CARD IS WHAT COUNTS. Prove the row's statement (the work); the ties are given (YtceacleokgoooaaGreatDoorTie.lean); close each card by the builder's one call (the guide's Derived/Test/ToyasCard.lean, 'card_holds'). Laid BY PROGRAM, IN A SANDBOX (cutbox-door.mjs). By AI agents, Wed Nov 11 2026. No macro, syntax, notation, axiom, sorry.
-/
import Derived.Test.YtceacleokgoooaaGreatDoorRows
import GoSem.ClaimSeven
namespace Go.Proofs.YtceacleokgoooaaGreatDoor
namespace Rows

/-- THE TIED CARD OF 'wayfinderlaw31.AdjustGrows'. -/
def adjustGrowsCard : Claim7 := { stood := { row := adjustGrowsRow, standIns := [], harness := (true, "4146135ce1ab57b7b40d37d552bb0dfc7909aa4b5e69654eeaef85e63a98fcce"), looks := false }, kinds := [], alts := [], laidByText := true, laidKinds := [.data, .data, .data], laidTests := true, laidLooks := .later }
def AdjustGrowsCardSaid : Prop := Claim7.holds Tryz.pinned (.plain (OpenSpec.ofChange adjustGrowsSpec)) adjustGrowsCard

/-- THE TIED CARD OF 'wayfinderlaw31.AdjustPlays'. -/
def adjustPlaysCard : Claim7 := { stood := { row := adjustPlaysRow, standIns := [], harness := (true, "4146135ce1ab57b7b40d37d552bb0dfc7909aa4b5e69654eeaef85e63a98fcce"), looks := false }, kinds := [], alts := [], laidByText := true, laidKinds := [.data, .data, .data], laidTests := true, laidLooks := .later }
def AdjustPlaysCardSaid : Prop := Claim7.holds Tryz.pinned (.plain (OpenSpec.ofChange adjustPlaysSpec)) adjustPlaysCard

/-- THE TIED CARD OF 'wayfindertop.WholeTrees'. -/
def wholeTreesCard : Claim7 := { stood := { row := wholeTreesRow, standIns := [], harness := (true, "4146135ce1ab57b7b40d37d552bb0dfc7909aa4b5e69654eeaef85e63a98fcce"), looks := false }, kinds := [], alts := [], laidByText := true, laidKinds := [.data, .data, .data], laidTests := true, laidLooks := .later }
def WholeTreesCardSaid : Prop := Claim7.holds Tryz.pinned (.plain (OpenSpec.ofChange wholeTreesSpec)) wholeTreesCard

/-- THE SECOND FORM's CARD OF 'wayfinderlaw31.AdjustGrows'. -/
def adjustGrowsUptoCard : Claim7 := { stood := { row := adjustGrowsUptoRow, standIns := [], harness := (true, "4146135ce1ab57b7b40d37d552bb0dfc7909aa4b5e69654eeaef85e63a98fcce"), looks := false }, kinds := [], alts := [], laidByText := true, laidKinds := [.data, .data, .data], laidTests := true, laidLooks := .later }
def AdjustGrowsUptoCardSaid : Prop := Claim7.holds Tryz.pinned (.plain (OpenSpec.upto adjustGrowsSpec)) adjustGrowsUptoCard

/-- THE SECOND FORM's CARD OF 'wayfinderlaw31.AdjustPlays'. -/
def adjustPlaysUptoCard : Claim7 := { stood := { row := adjustPlaysUptoRow, standIns := [], harness := (true, "4146135ce1ab57b7b40d37d552bb0dfc7909aa4b5e69654eeaef85e63a98fcce"), looks := false }, kinds := [], alts := [], laidByText := true, laidKinds := [.data, .data, .data], laidTests := true, laidLooks := .later }
def AdjustPlaysUptoCardSaid : Prop := Claim7.holds Tryz.pinned (.plain (OpenSpec.upto adjustPlaysSpec)) adjustPlaysUptoCard

/-- THE SECOND FORM's CARD OF 'wayfindertop.WholeTrees'. -/
def wholeTreesUptoCard : Claim7 := { stood := { row := wholeTreesUptoRow, standIns := [], harness := (true, "4146135ce1ab57b7b40d37d552bb0dfc7909aa4b5e69654eeaef85e63a98fcce"), looks := false }, kinds := [], alts := [], laidByText := true, laidKinds := [.data, .data, .data], laidTests := true, laidLooks := .later }
def WholeTreesUptoCardSaid : Prop := Claim7.holds Tryz.pinned (.plain (OpenSpec.upto wholeTreesSpec)) wholeTreesUptoCard
end Rows
end Go.Proofs.YtceacleokgoooaaGreatDoor
