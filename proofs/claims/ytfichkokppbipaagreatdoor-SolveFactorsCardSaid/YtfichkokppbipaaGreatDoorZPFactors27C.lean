/- Part of a proof that a Go function answers true for every input. No condition. -/
import Derived.Test.YtfichkokppbipaaGreatDoorZPFactors27
import Derived.Test.YtfichkokppbipaaGreatDoorRows
import Derived.ProofKit
import Derived.Test.YtfichkokppbipaaGreatDoorCards
import Derived.Test.YtfichkokppbipaaGreatDoorTie
import Derived.LaidMore
import Derived.OpenShut
import Derived.Stop.Joined
import Derived.SevenTiedAt
set_option linter.unusedVariables false
set_option linter.unusedSimpArgs false
set_option linter.unusedSectionVars false
/- For every input SolveFactors answers true, and its arguments read behind the call as before. No condition. -/
namespace Go.Proofs.YtfichkokppbipaaGreatDoor
open Go.ChangeShapes Go.WideShapes Go.ChangeAt Go.RowKit
theorem m0 : Tryz.prog.mainIs = some ((true, "f5eb1bd88c2aa82ca67d0b1ea9b43bc394cadadac30678db681cd41c87eaaafa").1, (true, "f5eb1bd88c2aa82ca67d0b1ea9b43bc394cadadac30678db681cd41c87eaaafa").2.toList) := by kernel_rfl
theorem mq : false = Tryz.prog.looks [] := by kernel_rfl
theorem m6 : false = Rows.solveFactorsRow.goesBy Tryz.prog := by kernel_rfl
theorem mZ : Tryz.prog.funcNamed "wayfinder/wayfinderlaw27.SolveFactors" = some 4 := by kernel_rfl
theorem solveFactors_card : Rows.SolveFactorsCardSaid :=
 Claim7.holds_tied_plain_at .later [] [.data, .data, .data] true (true, "f5eb1bd88c2aa82ca67d0b1ea9b43bc394cadadac30678db681cd41c87eaaafa") false
  solveFactors_holds (fun _ h => by cases h) (by kernel_rfl) (fun _ h => by cases h) solveFactors_row_tie rfl ⟨rfl, rfl⟩ m0 rfl
  (fun f fn hf hfn => by
   obtain rfl : f = 4 := Option.some.inj (mZ.symm.trans hf) |>.symm
   obtain rfl : fn = Tryz.f4 := (Option.some.inj (Tryz.func4.symm.trans hfn)).symm
   exact ⟨mq, fun j t ht => by
    rw [Tryz.params4] at ht
    match j, ht with
    | 0, ht => cases ht; exact (show Tryz.prog.wantsStandIn 46 = false by kernel_rfl)
    | 1, ht => cases ht; exact (show Tryz.prog.wantsStandIn 47 = false by kernel_rfl)
    | j + 2, ht => simp at ht⟩)
  m6
#print axioms solveFactors_card
end Go.Proofs.YtfichkokppbipaaGreatDoor
