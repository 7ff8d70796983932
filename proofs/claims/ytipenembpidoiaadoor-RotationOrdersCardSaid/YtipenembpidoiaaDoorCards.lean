/-
  DERIVED. GIVEN WITH THE SEED: THE CARDS: each row of YtipenembpidoiaaDoorRows.lean that lists a variable, with what it lists TIED to the program's text (the seventh form; the later family's looks); each row that meets fmt, with fmt's text TOLD by the authors' own Lean function (tested against real Go, not proved from fmt's source: count such statements apart). THE CARD IS WHAT COUNTS. Prove the row's statement (the work); the ties are given (YtipenembpidoiaaDoorTie.lean); close each card by the builder's one call (the guide's Derived/Test/ToyasCard.lean, 'card_holds'). Laid BY PROGRAM, IN A SANDBOX (cutbox-door.mjs). By AI agents, Wed Nov 11 2026. No macro, syntax, notation, axiom, sorry.
-/
import Derived.Test.YtipenembpidoiaaDoorRows
import GoSem.ClaimSeven
namespace Go.Proofs.YtipenembpidoiaaDoor
namespace Rows

/-- THE TIED CARD OF 'wayfindertop.WholeChain'. -/
def wholeChainCard : Claim7 := { stood := { row := wholeChainRow, standIns := [], harness := (true, "fff7243c4af72bb8ec180b7dc3ab37c2daed3e4bb8ab62085554cb9f133b3af0"), looks := false }, kinds := [], alts := [], laidByText := true, laidKinds := [.data, .data, .data], laidTests := true, laidLooks := .later }
def WholeChainCardSaid : Prop := Claim7.holds Tryd.pinned (.plain (OpenSpec.ofChange wholeChainSpec)) wholeChainCard

/-- THE TIED CARD OF 'wayfinderlaw03.RotationCircle'. -/
def rotationCircleCard : Claim7 := { stood := { row := rotationCircleRow, standIns := [], harness := (true, "fff7243c4af72bb8ec180b7dc3ab37c2daed3e4bb8ab62085554cb9f133b3af0"), looks := false }, kinds := [], alts := [], laidByText := true, laidKinds := [.data, .data, .data], laidTests := true, laidLooks := .later }
def RotationCircleCardSaid : Prop := Claim7.holds Tryd.pinned (.plain (OpenSpec.ofChange rotationCircleSpec)) rotationCircleCard

/-- THE TIED CARD OF 'wayfinderlaw03.RotationGroup'. -/
def rotationGroupCard : Claim7 := { stood := { row := rotationGroupRow, standIns := [], harness := (true, "fff7243c4af72bb8ec180b7dc3ab37c2daed3e4bb8ab62085554cb9f133b3af0"), looks := false }, kinds := [], alts := [], laidByText := true, laidKinds := [.data, .data, .data], laidTests := true, laidLooks := .later }
def RotationGroupCardSaid : Prop := Claim7.holds Tryd.pinned (.plain (OpenSpec.ofChange rotationGroupSpec)) rotationGroupCard

/-- THE TIED CARD OF 'wayfinderlaw03.RotationRigid'. -/
def rotationRigidCard : Claim7 := { stood := { row := rotationRigidRow, standIns := [], harness := (true, "fff7243c4af72bb8ec180b7dc3ab37c2daed3e4bb8ab62085554cb9f133b3af0"), looks := false }, kinds := [], alts := [], laidByText := true, laidKinds := [.data, .data, .data], laidTests := true, laidLooks := .later }
def RotationRigidCardSaid : Prop := Claim7.holds Tryd.pinned (.plain (OpenSpec.ofChange rotationRigidSpec)) rotationRigidCard

/-- THE TIED CARD OF 'wayfinderlaw03.RotationMarks'. -/
def rotationMarksCard : Claim7 := { stood := { row := rotationMarksRow, standIns := [], harness := (true, "fff7243c4af72bb8ec180b7dc3ab37c2daed3e4bb8ab62085554cb9f133b3af0"), looks := false }, kinds := [], alts := [], laidByText := true, laidKinds := [.data, .data, .data], laidTests := true, laidLooks := .later }
def RotationMarksCardSaid : Prop := Claim7.holds Tryd.pinned (.plain (OpenSpec.ofChange rotationMarksSpec)) rotationMarksCard

/-- THE TIED CARD OF 'wayfinderlaw03.RotationAdds'. -/
def rotationAddsCard : Claim7 := { stood := { row := rotationAddsRow, standIns := [], harness := (true, "fff7243c4af72bb8ec180b7dc3ab37c2daed3e4bb8ab62085554cb9f133b3af0"), looks := false }, kinds := [], alts := [], laidByText := true, laidKinds := [.data, .data, .data], laidTests := true, laidLooks := .later }
def RotationAddsCardSaid : Prop := Claim7.holds Tryd.pinned (.plain (OpenSpec.ofChange rotationAddsSpec)) rotationAddsCard

/-- THE TIED CARD OF 'wayfinderlaw03.RotationActs'. -/
def rotationActsCard : Claim7 := { stood := { row := rotationActsRow, standIns := [], harness := (true, "fff7243c4af72bb8ec180b7dc3ab37c2daed3e4bb8ab62085554cb9f133b3af0"), looks := false }, kinds := [], alts := [], laidByText := true, laidKinds := [.data, .data, .data], laidTests := true, laidLooks := .later }
def RotationActsCardSaid : Prop := Claim7.holds Tryd.pinned (.plain (OpenSpec.ofChange rotationActsSpec)) rotationActsCard

/-- THE TIED CARD OF 'wayfinderlaw03.RotationOrders'. -/
def rotationOrdersCard : Claim7 := { stood := { row := rotationOrdersRow, standIns := [], harness := (true, "fff7243c4af72bb8ec180b7dc3ab37c2daed3e4bb8ab62085554cb9f133b3af0"), looks := false }, kinds := [], alts := [], laidByText := true, laidKinds := [.data, .data, .data], laidTests := true, laidLooks := .later }
def RotationOrdersCardSaid : Prop := Claim7.holds Tryd.pinned (.plain (OpenSpec.ofChange rotationOrdersSpec)) rotationOrdersCard

/-- THE SECOND FORM's CARD OF 'wayfindertop.WholeChain'. -/
def wholeChainUptoCard : Claim7 := { stood := { row := wholeChainUptoRow, standIns := [], harness := (true, "fff7243c4af72bb8ec180b7dc3ab37c2daed3e4bb8ab62085554cb9f133b3af0"), looks := false }, kinds := [], alts := [], laidByText := true, laidKinds := [.data, .data, .data], laidTests := true, laidLooks := .later }
def WholeChainUptoCardSaid : Prop := Claim7.holds Tryd.pinned (.plain (OpenSpec.upto wholeChainSpec)) wholeChainUptoCard

/-- THE SECOND FORM's CARD OF 'wayfinderlaw03.RotationCircle'. -/
def rotationCircleUptoCard : Claim7 := { stood := { row := rotationCircleUptoRow, standIns := [], harness := (true, "fff7243c4af72bb8ec180b7dc3ab37c2daed3e4bb8ab62085554cb9f133b3af0"), looks := false }, kinds := [], alts := [], laidByText := true, laidKinds := [.data, .data, .data], laidTests := true, laidLooks := .later }
def RotationCircleUptoCardSaid : Prop := Claim7.holds Tryd.pinned (.plain (OpenSpec.upto rotationCircleSpec)) rotationCircleUptoCard

/-- THE SECOND FORM's CARD OF 'wayfinderlaw03.RotationGroup'. -/
def rotationGroupUptoCard : Claim7 := { stood := { row := rotationGroupUptoRow, standIns := [], harness := (true, "fff7243c4af72bb8ec180b7dc3ab37c2daed3e4bb8ab62085554cb9f133b3af0"), looks := false }, kinds := [], alts := [], laidByText := true, laidKinds := [.data, .data, .data], laidTests := true, laidLooks := .later }
def RotationGroupUptoCardSaid : Prop := Claim7.holds Tryd.pinned (.plain (OpenSpec.upto rotationGroupSpec)) rotationGroupUptoCard

/-- THE SECOND FORM's CARD OF 'wayfinderlaw03.RotationRigid'. -/
def rotationRigidUptoCard : Claim7 := { stood := { row := rotationRigidUptoRow, standIns := [], harness := (true, "fff7243c4af72bb8ec180b7dc3ab37c2daed3e4bb8ab62085554cb9f133b3af0"), looks := false }, kinds := [], alts := [], laidByText := true, laidKinds := [.data, .data, .data], laidTests := true, laidLooks := .later }
def RotationRigidUptoCardSaid : Prop := Claim7.holds Tryd.pinned (.plain (OpenSpec.upto rotationRigidSpec)) rotationRigidUptoCard

/-- THE SECOND FORM's CARD OF 'wayfinderlaw03.RotationMarks'. -/
def rotationMarksUptoCard : Claim7 := { stood := { row := rotationMarksUptoRow, standIns := [], harness := (true, "fff7243c4af72bb8ec180b7dc3ab37c2daed3e4bb8ab62085554cb9f133b3af0"), looks := false }, kinds := [], alts := [], laidByText := true, laidKinds := [.data, .data, .data], laidTests := true, laidLooks := .later }
def RotationMarksUptoCardSaid : Prop := Claim7.holds Tryd.pinned (.plain (OpenSpec.upto rotationMarksSpec)) rotationMarksUptoCard

/-- THE SECOND FORM's CARD OF 'wayfinderlaw03.RotationAdds'. -/
def rotationAddsUptoCard : Claim7 := { stood := { row := rotationAddsUptoRow, standIns := [], harness := (true, "fff7243c4af72bb8ec180b7dc3ab37c2daed3e4bb8ab62085554cb9f133b3af0"), looks := false }, kinds := [], alts := [], laidByText := true, laidKinds := [.data, .data, .data], laidTests := true, laidLooks := .later }
def RotationAddsUptoCardSaid : Prop := Claim7.holds Tryd.pinned (.plain (OpenSpec.upto rotationAddsSpec)) rotationAddsUptoCard

/-- THE SECOND FORM's CARD OF 'wayfinderlaw03.RotationActs'. -/
def rotationActsUptoCard : Claim7 := { stood := { row := rotationActsUptoRow, standIns := [], harness := (true, "fff7243c4af72bb8ec180b7dc3ab37c2daed3e4bb8ab62085554cb9f133b3af0"), looks := false }, kinds := [], alts := [], laidByText := true, laidKinds := [.data, .data, .data], laidTests := true, laidLooks := .later }
def RotationActsUptoCardSaid : Prop := Claim7.holds Tryd.pinned (.plain (OpenSpec.upto rotationActsSpec)) rotationActsUptoCard

/-- THE SECOND FORM's CARD OF 'wayfinderlaw03.RotationOrders'. -/
def rotationOrdersUptoCard : Claim7 := { stood := { row := rotationOrdersUptoRow, standIns := [], harness := (true, "fff7243c4af72bb8ec180b7dc3ab37c2daed3e4bb8ab62085554cb9f133b3af0"), looks := false }, kinds := [], alts := [], laidByText := true, laidKinds := [.data, .data, .data], laidTests := true, laidLooks := .later }
def RotationOrdersUptoCardSaid : Prop := Claim7.holds Tryd.pinned (.plain (OpenSpec.upto rotationOrdersSpec)) rotationOrdersUptoCard
end Rows
end Go.Proofs.YtipenembpidoiaaDoor
