/- Part of a proof that a Go function answers true for every input. No condition. -/
import Derived.Test.YtfichkokppbipaaGreatDoorZPSolves27
import Derived.Test.YtfichkokppbipaaGreatDoorRows
import Derived.ProofKit
import Derived.Test.YtfichkokppbipaaGreatDoorCards
import Derived.Test.YtfichkokppbipaaGreatDoorTie
import Derived.LaidMore
import Derived.OpenShut
import Derived.Stop.Joined
import Derived.SevenTiedAt
set_option linter.unusedVariables false
set_option linter.unusedSimpArgs false
set_option linter.unusedSectionVars false
/- For every input SolveSolves answers true, and its arguments read behind the call as before. No condition. -/
namespace Go.Proofs.YtfichkokppbipaaGreatDoor
open Go.ChangeShapes Go.WideShapes Go.ChangeAt Go.RowKit
theorem nZ : Tryz.prog.mainIs = some ((true, "f5eb1bd88c2aa82ca67d0b1ea9b43bc394cadadac30678db681cd41c87eaaafa").1, (true, "f5eb1bd88c2aa82ca67d0b1ea9b43bc394cadadac30678db681cd41c87eaaafa").2.toList) := by kernel_rfl
theorem mR : false = Tryz.prog.looks [] := by kernel_rfl
theorem n4 : false = Rows.solveSolvesRow.goesBy Tryz.prog := by kernel_rfl
theorem nY : Tryz.prog.funcNamed "wayfinder/wayfinderlaw27.SolveSolves" = some 7 := by kernel_rfl
theorem solveSolves_card : Rows.SolveSolvesCardSaid :=
 Claim7.holds_tied_plain_at .later [] [.data, .data, .data] true (true, "f5eb1bd88c2aa82ca67d0b1ea9b43bc394cadadac30678db681cd41c87eaaafa") false
  solveSolves_holds (fun _ h => by cases h) (by kernel_rfl) (fun _ h => by cases h) solveSolves_row_tie rfl ⟨rfl, rfl⟩ nZ rfl
  (fun f fn hf hfn => by
   obtain rfl : f = 7 := Option.some.inj (nY.symm.trans hf) |>.symm
   obtain rfl : fn = Tryz.f7 := (Option.some.inj (Tryz.func7.symm.trans hfn)).symm
   exact ⟨mR, fun j t ht => by
    rw [Tryz.params7] at ht
    match j, ht with
    | 0, ht => cases ht; exact (show Tryz.prog.wantsStandIn 46 = false by kernel_rfl)
    | 1, ht => cases ht; exact (show Tryz.prog.wantsStandIn 49 = false by kernel_rfl)
    | j + 2, ht => simp at ht⟩)
  n4
#print axioms solveSolves_card
end Go.Proofs.YtfichkokppbipaaGreatDoor
