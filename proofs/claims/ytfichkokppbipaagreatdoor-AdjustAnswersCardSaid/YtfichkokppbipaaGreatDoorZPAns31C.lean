/- Part of a proof that a Go function answers true for every input. No condition. -/
import Derived.Test.YtfichkokppbipaaGreatDoorZPAns31
import Derived.Test.YtfichkokppbipaaGreatDoorRows
import Derived.ProofKit
import Derived.Test.YtfichkokppbipaaGreatDoorCards
import Derived.Test.YtfichkokppbipaaGreatDoorTie
import Derived.LaidMore
import Derived.OpenShut
import Derived.Stop.Joined
import Derived.SevenTiedAt
set_option linter.unusedVariables false
set_option linter.unusedSimpArgs false
set_option linter.unusedSectionVars false
/- For every input AdjustAnswers answers true, and its arguments read behind the call as before. No condition. -/
namespace Go.Proofs.YtfichkokppbipaaGreatDoor
open Go.ChangeShapes Go.WideShapes Go.ChangeAt Go.RowKit
theorem lT : Tryz.prog.mainIs = some ((true, "f5eb1bd88c2aa82ca67d0b1ea9b43bc394cadadac30678db681cd41c87eaaafa").1, (true, "f5eb1bd88c2aa82ca67d0b1ea9b43bc394cadadac30678db681cd41c87eaaafa").2.toList) := by kernel_rfl
theorem lf : false = Tryz.prog.looks [] := by kernel_rfl
theorem lV : false = Rows.adjustAnswersRow.goesBy Tryz.prog := by kernel_rfl
theorem lS : Tryz.prog.funcNamed "wayfinder/wayfinderlaw31.AdjustAnswers" = some 3 := by kernel_rfl
theorem adjustAnswers_card : Rows.AdjustAnswersCardSaid :=
 Claim7.holds_tied_plain_at .later [] [.data, .data, .data] true (true, "f5eb1bd88c2aa82ca67d0b1ea9b43bc394cadadac30678db681cd41c87eaaafa") false
  adjustAnswers_holds (fun _ h => by cases h) (by kernel_rfl) (fun _ h => by cases h) adjustAnswers_row_tie rfl ⟨rfl, rfl⟩ lT rfl
  (fun f fn hf hfn => by
   obtain rfl : f = 3 := Option.some.inj (lS.symm.trans hf) |>.symm
   obtain rfl : fn = Tryz.f3 := (Option.some.inj (Tryz.func3.symm.trans hfn)).symm
   exact ⟨lf, fun j t ht => by
    rw [Tryz.params3] at ht
    match j, ht with
    | 0, ht => cases ht; exact (show Tryz.prog.wantsStandIn 25 = false by kernel_rfl)
    | 1, ht => cases ht; exact (show Tryz.prog.wantsStandIn 26 = false by kernel_rfl)
    | j + 2, ht => simp at ht⟩)
  lV
#print axioms adjustAnswers_card
end Go.Proofs.YtfichkokppbipaaGreatDoor
