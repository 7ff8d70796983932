/- Part of a proof that a Go function answers true for every input. No condition. -/
import Derived.Test.YtfichkokppbipaaGreatDoorZPRenum27
import Derived.Test.YtfichkokppbipaaGreatDoorRows
import Derived.ProofKit
import Derived.Test.YtfichkokppbipaaGreatDoorCards
import Derived.Test.YtfichkokppbipaaGreatDoorTie
import Derived.LaidMore
import Derived.OpenShut
import Derived.Stop.Joined
import Derived.SevenTiedAt
set_option linter.unusedVariables false
set_option linter.unusedSimpArgs false
set_option linter.unusedSectionVars false
/- For every input SolveRenumbers answers true, and its arguments read behind the call as before. No condition. -/
namespace Go.Proofs.YtfichkokppbipaaGreatDoor
open Go.ChangeShapes Go.WideShapes Go.ChangeAt Go.RowKit
theorem lL : Tryz.prog.mainIs = some ((true, "f5eb1bd88c2aa82ca67d0b1ea9b43bc394cadadac30678db681cd41c87eaaafa").1, (true, "f5eb1bd88c2aa82ca67d0b1ea9b43bc394cadadac30678db681cd41c87eaaafa").2.toList) := by kernel_rfl
theorem j9 : false = Tryz.prog.looks [] := by kernel_rfl
theorem lN : false = Rows.solveRenumbersRow.goesBy Tryz.prog := by kernel_rfl
theorem lK : Tryz.prog.funcNamed "wayfinder/wayfinderlaw27.SolveRenumbers" = some 5 := by kernel_rfl
theorem solveRenumbers_card : Rows.SolveRenumbersCardSaid :=
 Claim7.holds_tied_plain_at .later [] [.data, .data, .data] true (true, "f5eb1bd88c2aa82ca67d0b1ea9b43bc394cadadac30678db681cd41c87eaaafa") false
  solveRenumbers_holds (fun _ h => by cases h) (by kernel_rfl) (fun _ h => by cases h) solveRenumbers_row_tie rfl ⟨rfl, rfl⟩ lL rfl
  (fun f fn hf hfn => by
   obtain rfl : f = 5 := Option.some.inj (lK.symm.trans hf) |>.symm
   obtain rfl : fn = Tryz.f5 := (Option.some.inj (Tryz.func5.symm.trans hfn)).symm
   exact ⟨j9, fun j t ht => by
    rw [Tryz.params5] at ht
    match j, ht with
    | 0, ht => cases ht; exact (show Tryz.prog.wantsStandIn 55 = false by kernel_rfl)
    | 1, ht => cases ht; exact (show Tryz.prog.wantsStandIn 56 = false by kernel_rfl)
    | 2, ht => cases ht; exact (show Tryz.prog.wantsStandIn 57 = false by kernel_rfl)
    | j + 3, ht => simp at ht⟩)
  lN
#print axioms solveRenumbers_card
end Go.Proofs.YtfichkokppbipaaGreatDoor
