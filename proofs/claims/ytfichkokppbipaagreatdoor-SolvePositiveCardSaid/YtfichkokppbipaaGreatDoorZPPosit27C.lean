/- Part of a proof that a Go function answers true for every input. No condition. -/
import Derived.Test.YtfichkokppbipaaGreatDoorZPPosit27
import Derived.Test.YtfichkokppbipaaGreatDoorRows
import Derived.ProofKit
import Derived.Test.YtfichkokppbipaaGreatDoorCards
import Derived.Test.YtfichkokppbipaaGreatDoorTie
import Derived.LaidMore
import Derived.OpenShut
import Derived.Stop.Joined
import Derived.SevenTiedAt
set_option linter.unusedVariables false
set_option linter.unusedSimpArgs false
set_option linter.unusedSectionVars false
/- For every input SolvePositive answers true, and its arguments read behind the call as before. No condition. -/
namespace Go.Proofs.YtfichkokppbipaaGreatDoor
open Go.ChangeShapes Go.WideShapes Go.ChangeAt Go.RowKit
theorem ml : Tryz.prog.mainIs = some ((true, "f5eb1bd88c2aa82ca67d0b1ea9b43bc394cadadac30678db681cd41c87eaaafa").1, (true, "f5eb1bd88c2aa82ca67d0b1ea9b43bc394cadadac30678db681cd41c87eaaafa").2.toList) := by kernel_rfl
theorem lQ : false = Tryz.prog.looks [] := by kernel_rfl
theorem mn : false = Rows.solvePositiveRow.goesBy Tryz.prog := by kernel_rfl
theorem mj : Tryz.prog.funcNamed "wayfinder/wayfinderlaw27.SolvePositive" = some 11 := by kernel_rfl
theorem solvePositive_card : Rows.SolvePositiveCardSaid :=
 Claim7.holds_tied_plain_at .later [] [.data, .data, .data] true (true, "f5eb1bd88c2aa82ca67d0b1ea9b43bc394cadadac30678db681cd41c87eaaafa") false
  solvePositive_holds (fun _ h => by cases h) (by kernel_rfl) (fun _ h => by cases h) solvePositive_row_tie rfl ⟨rfl, rfl⟩ ml rfl
  (fun f fn hf hfn => by
   obtain rfl : f = 11 := Option.some.inj (mj.symm.trans hf) |>.symm
   obtain rfl : fn = Tryz.f11 := (Option.some.inj (Tryz.func11.symm.trans hfn)).symm
   exact ⟨lQ, fun j t ht => by
    rw [Tryz.params11] at ht
    match j, ht with
    | 0, ht => cases ht; exact (show Tryz.prog.wantsStandIn 55 = false by kernel_rfl)
    | 1, ht => cases ht; exact (show Tryz.prog.wantsStandIn 49 = false by kernel_rfl)
    | j + 2, ht => simp at ht⟩)
  mn
#print axioms solvePositive_card
end Go.Proofs.YtfichkokppbipaaGreatDoor
