/- Part of a proof that a Go function answers true for every input. No condition. -/
import Derived.Test.YtomlkgcfagnngaaGreatDoorZPFill27
import Derived.Test.YtomlkgcfagnngaaGreatDoorRows
import Derived.ProofKit
import Derived.Test.YtomlkgcfagnngaaGreatDoorCards
import Derived.Test.YtomlkgcfagnngaaGreatDoorTie
import Derived.LaidMore
import Derived.OpenShut
import Derived.Stop.Joined
import Derived.SevenTiedAt
set_option linter.unusedVariables false
set_option linter.unusedSimpArgs false
set_option linter.unusedSectionVars false
/- For every input SolveFill answers true, and its arguments read behind the call as before. No condition. -/
namespace Go.Proofs.YtomlkgcfagnngaaGreatDoor
open Go.ChangeShapes Go.WideShapes Go.ChangeAt Go.RowKit
theorem l8 : Tryz.prog.mainIs = some ((true, "f58e854b51840634ed84621e60c76d9cc59b31664338174e8bae0316055ffb19").1, (true, "f58e854b51840634ed84621e60c76d9cc59b31664338174e8bae0316055ffb19").2.toList) := by kernel_rfl
theorem kZ : false = Tryz.prog.looks [] := by kernel_rfl
theorem mc : false = Rows.solveFillRow.goesBy Tryz.prog := by kernel_rfl
theorem l7 : Tryz.prog.funcNamed "wayfinder/wayfinderlaw27.SolveFill" = some 3 := by kernel_rfl
theorem solveFill_card : Rows.SolveFillCardSaid :=
 Claim7.holds_tied_plain_at .later [] [.data, .data, .data] true (true, "f58e854b51840634ed84621e60c76d9cc59b31664338174e8bae0316055ffb19") false
  solveFill_holds (fun _ h => by cases h) (by kernel_rfl) (fun _ h => by cases h) solveFill_row_tie rfl ⟨rfl, rfl⟩ l8 rfl
  (fun f fn hf hfn => by
   obtain rfl : f = 3 := Option.some.inj (l7.symm.trans hf) |>.symm
   obtain rfl : fn = Tryz.f3 := (Option.some.inj (Tryz.func3.symm.trans hfn)).symm
   exact ⟨kZ, fun j t ht => by
    rw [Tryz.params3] at ht
    match j, ht with
    | 0, ht => cases ht; exact (show Tryz.prog.wantsStandIn 22 = false by kernel_rfl)
    | 1, ht => cases ht; exact (show Tryz.prog.wantsStandIn 23 = false by kernel_rfl)
    | j + 2, ht => simp at ht⟩)
  mc
#print axioms solveFill_card
end Go.Proofs.YtomlkgcfagnngaaGreatDoor
