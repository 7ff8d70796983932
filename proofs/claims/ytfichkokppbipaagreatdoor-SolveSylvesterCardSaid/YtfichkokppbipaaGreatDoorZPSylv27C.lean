/- Part of a proof that a Go function answers true for every input. No condition. -/
import Derived.Test.YtfichkokppbipaaGreatDoorZPSylv27
import Derived.Test.YtfichkokppbipaaGreatDoorRows
import Derived.ProofKit
import Derived.Test.YtfichkokppbipaaGreatDoorCards
import Derived.Test.YtfichkokppbipaaGreatDoorTie
import Derived.LaidMore
import Derived.OpenShut
import Derived.Stop.Joined
import Derived.SevenTiedAt
set_option linter.unusedVariables false
set_option linter.unusedSimpArgs false
set_option linter.unusedSectionVars false
/- For every input SolveSylvester answers true, and its arguments read behind the call as before. No condition. -/
namespace Go.Proofs.YtfichkokppbipaaGreatDoor
open Go.ChangeShapes Go.WideShapes Go.ChangeAt Go.RowKit
theorem lC : Tryz.prog.mainIs = some ((true, "f5eb1bd88c2aa82ca67d0b1ea9b43bc394cadadac30678db681cd41c87eaaafa").1, (true, "f5eb1bd88c2aa82ca67d0b1ea9b43bc394cadadac30678db681cd41c87eaaafa").2.toList) := by kernel_rfl
theorem j7 : false = Tryz.prog.looks [] := by kernel_rfl
theorem lE : false = Rows.solveSylvesterRow.goesBy Tryz.prog := by kernel_rfl
theorem lz : Tryz.prog.funcNamed "wayfinder/wayfinderlaw27.SolveSylvester" = some 10 := by kernel_rfl
theorem solveSylvester_card : Rows.SolveSylvesterCardSaid :=
 Claim7.holds_tied_plain_at .later [] [.data, .data, .data] true (true, "f5eb1bd88c2aa82ca67d0b1ea9b43bc394cadadac30678db681cd41c87eaaafa") false
  solveSylvester_holds (fun _ h => by cases h) (by kernel_rfl) (fun _ h => by cases h) solveSylvester_row_tie rfl ⟨rfl, rfl⟩ lC rfl
  (fun f fn hf hfn => by
   obtain rfl : f = 10 := Option.some.inj (lz.symm.trans hf) |>.symm
   obtain rfl : fn = Tryz.f10 := (Option.some.inj (Tryz.func10.symm.trans hfn)).symm
   exact ⟨j7, fun j t ht => by
    rw [Tryz.params10] at ht
    match j, ht with
    | 0, ht => cases ht; exact (show Tryz.prog.wantsStandIn 46 = false by kernel_rfl)
    | j + 1, ht => simp at ht⟩)
  lE
#print axioms solveSylvester_card
end Go.Proofs.YtfichkokppbipaaGreatDoor
