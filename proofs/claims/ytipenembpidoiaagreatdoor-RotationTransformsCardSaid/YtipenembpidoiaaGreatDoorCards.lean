/-
  DERIVED. GIVEN WITH THE SEED: THE CARDS: each row of YtipenembpidoiaaGreatDoorRows.lean that lists a variable, with what it lists TIED to the program's text (the seventh form; the later family's looks); each row that meets fmt, with fmt's text TOLD by the authors' own Lean function (tested against real Go, not proved from fmt's source: count such statements apart). THE CARD IS WHAT COUNTS. Prove the row's statement (the work); the ties are given (YtipenembpidoiaaGreatDoorTie.lean); close each card by the builder's one call (the guide's Derived/Test/ToyasCard.lean, 'card_holds'). Laid BY PROGRAM, IN A SANDBOX (cutbox-door.mjs). By AI agents, Wed Nov 11 2026. No macro, syntax, notation, axiom, sorry.
-/
import Derived.Test.YtipenembpidoiaaGreatDoorRows
import GoSem.ClaimSeven
namespace Go.Proofs.YtipenembpidoiaaGreatDoor
namespace Rows

/-- THE TIED CARD OF 'wayfinderlaw03.RotationAnswers'. -/
def rotationAnswersCard : Claim7 := { stood := { row := rotationAnswersRow, standIns := [], harness := (true, "4d1054f64bb61af8b00c0b2f04b4b5ddbc9ad1fcd024042d2f11df5223beb894"), looks := false }, kinds := [], alts := [], laidByText := true, laidKinds := [.data, .data, .data], laidTests := true, laidLooks := .later }
def RotationAnswersCardSaid : Prop := Claim7.holds Tryz.pinned (.plain (OpenSpec.ofChange rotationAnswersSpec)) rotationAnswersCard

/-- THE TIED CARD OF 'wayfinderlaw03.RotationTransforms'. -/
def rotationTransformsCard : Claim7 := { stood := { row := rotationTransformsRow, standIns := [], harness := (true, "4d1054f64bb61af8b00c0b2f04b4b5ddbc9ad1fcd024042d2f11df5223beb894"), looks := false }, kinds := [], alts := [], laidByText := true, laidKinds := [.data, .data, .data], laidTests := true, laidLooks := .later }
def RotationTransformsCardSaid : Prop := Claim7.holds Tryz.pinned (.plain (OpenSpec.ofChange rotationTransformsSpec)) rotationTransformsCard

/-- THE TIED CARD OF 'wayfinderlaw03.RotationPowers'. -/
def rotationPowersCard : Claim7 := { stood := { row := rotationPowersRow, standIns := [], harness := (true, "4d1054f64bb61af8b00c0b2f04b4b5ddbc9ad1fcd024042d2f11df5223beb894"), looks := false }, kinds := [], alts := [], laidByText := true, laidKinds := [.data, .data, .data], laidTests := true, laidLooks := .later }
def RotationPowersCardSaid : Prop := Claim7.holds Tryz.pinned (.plain (OpenSpec.ofChange rotationPowersSpec)) rotationPowersCard

/-- THE SECOND FORM's CARD OF 'wayfinderlaw03.RotationAnswers'. -/
def rotationAnswersUptoCard : Claim7 := { stood := { row := rotationAnswersUptoRow, standIns := [], harness := (true, "4d1054f64bb61af8b00c0b2f04b4b5ddbc9ad1fcd024042d2f11df5223beb894"), looks := false }, kinds := [], alts := [], laidByText := true, laidKinds := [.data, .data, .data], laidTests := true, laidLooks := .later }
def RotationAnswersUptoCardSaid : Prop := Claim7.holds Tryz.pinned (.plain (OpenSpec.upto rotationAnswersSpec)) rotationAnswersUptoCard

/-- THE SECOND FORM's CARD OF 'wayfinderlaw03.RotationTransforms'. -/
def rotationTransformsUptoCard : Claim7 := { stood := { row := rotationTransformsUptoRow, standIns := [], harness := (true, "4d1054f64bb61af8b00c0b2f04b4b5ddbc9ad1fcd024042d2f11df5223beb894"), looks := false }, kinds := [], alts := [], laidByText := true, laidKinds := [.data, .data, .data], laidTests := true, laidLooks := .later }
def RotationTransformsUptoCardSaid : Prop := Claim7.holds Tryz.pinned (.plain (OpenSpec.upto rotationTransformsSpec)) rotationTransformsUptoCard

/-- THE SECOND FORM's CARD OF 'wayfinderlaw03.RotationPowers'. -/
def rotationPowersUptoCard : Claim7 := { stood := { row := rotationPowersUptoRow, standIns := [], harness := (true, "4d1054f64bb61af8b00c0b2f04b4b5ddbc9ad1fcd024042d2f11df5223beb894"), looks := false }, kinds := [], alts := [], laidByText := true, laidKinds := [.data, .data, .data], laidTests := true, laidLooks := .later }
def RotationPowersUptoCardSaid : Prop := Claim7.holds Tryz.pinned (.plain (OpenSpec.upto rotationPowersSpec)) rotationPowersUptoCard
end Rows
end Go.Proofs.YtipenembpidoiaaGreatDoor
